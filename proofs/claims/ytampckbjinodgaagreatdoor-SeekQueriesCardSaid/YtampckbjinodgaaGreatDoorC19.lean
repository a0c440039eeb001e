/-
  Lifted functions, and facts about them.
-/
import Derived.Test.YtampckbjinodgaaGreatDoorRows
import Derived.Test.YtampckbjinodgaaGreatDoorC01
import Derived.Test.YtampckbjinodgaaGreatDoorAmC
import Derived.Test.YtampckbjinodgaaGreatDoorC18
set_option linter.unusedVariables false
noncomputable section
namespace Go.Proofs.YtampckbjinodgaaGreatDoor
open Go Go.Am
theorem zQv(k F:Nat)(o:List (Elt zM))(P A B Q:List zk)(hF:1002<=F)(hA:A.Pairwise (LtF o))(hB:B.Pairwise (LtF o))(hid:zes (P++(A++(B++Q))))(hl:P.length+(A.length+(B.length+Q.length))<=1000)
 (a2:2<=A.length) (b2:2<=B.length) (hk:A.length+B.length<=2*2^k) (lo hi mid:Nat) (hm:mid=(P.length+(P.length+A.length+B.length))/2)
 (hlh:(mid<P.length+A.length/\lo=mid-B.length/\hi=mid)\/(P.length+A.length<=mid/\lo=P.length/\hi=P.length+A.length)):
 zn8 k F (P.length:Int) ((P.length+A.length:Nat):Int) ((P.length+A.length+B.length:Nat):Int) o (mid:Int) ((mid:Int)+((P.length+A.length:Nat):Int)) (lo:Int) (hi:Int) (P++(A++(B++Q)))=znz (P++(zW o (A++B)++Q)):=by
 have el:(P++(A++(B++Q))).length=P.length+(A.length+(B.length+Q.length)):=by simp
 have tp:∀ c:Nat,(((mid:Int)+((P.length+A.length:Nat):Int))-(1:Int)-(c:Int)).toNat=mid+(P.length+A.length)-1-c:=fun c=>by omega
 rw[zCG]
 refine zd (by unfold zh;omega) ?_
 obtain⟨s,s1,s2,s3,s4,s5⟩:=zp6 (fun f i j=>zdM k F f (P.length:Int) ((P.length+A.length:Nat):Int) ((P.length+A.length+B.length:Nat):Int) o (mid:Int) ((mid:Int)+((P.length+A.length:Nat):Int)) i j (((mid:Int)+((P.length+A.length:Nat):Int))-(1:Int)) (P++(A++(B++Q))))
  (fun s=>ze (zh (((mid:Int)+((P.length+A.length:Nat):Int))-s)) (cond ((decide (s<((P.length+A.length:Nat):Int)))&&(decide (((P.length+A.length:Nat):Int)<(((mid:Int)+((P.length+A.length:Nat):Int))-s))))
   (ze (zsA s ((P.length+A.length:Nat):Int) (((mid:Int)+((P.length+A.length:Nat):Int))-s) (P++(A++(B++Q)))) (zcF k F (P.length:Int) ((P.length+A.length+B.length:Nat):Int) o (mid:Int) s (((mid:Int)+((P.length+A.length:Nat):Int))-s) (zz8 s ((P.length+A.length:Nat):Int) (((mid:Int)+((P.length+A.length:Nat):Int))-s) (P++(A++(B++Q))))))
   (zcF k F (P.length:Int) ((P.length+A.length+B.length:Nat):Int) o (mid:Int) s (((mid:Int)+((P.length+A.length:Nat):Int))-s) (P++(A++(B++Q))))))
  (fun c=>!decide (zbM o ((P++(A++(B++Q))).getD (mid+(P.length+A.length)-1-c) dF) ((P++(A++(B++Q))).getD c dF)<0)) lo hi
  (fun f i j h1 h2 h3=>by
   show zdM k F (f+1) _ _ _ _ _ _ _ _ _ _=_
   rw[zmU,zjz i j (by omega),Int.toNat_natCast,tp]
   simp only[Prod.eta]
   refine zi (decide_eq_true (by omega)) (zd (by unfold zh;omega) (zd (by unfold zh;omega) (zd (by rw[el];omega) (zd (by rw[el];omega) (zd (by rw[el];omega) (zd (by rw[el];omega) (zd trivial ?_)))))))
   rw[zyK]
   cases decide (zbM o ((P++(A++(B++Q))).getD (mid+(P.length+A.length)-1-(i+j)/2) dF) ((P++(A++(B++Q))).getD ((i+j)/2) dF)<0)with
   | false=>exact zd (by unfold zh;omega) rfl
   | true=>rfl)
  (fun f i h1 h2=>by
   show zdM k F (f+1) _ _ _ _ _ _ _ _ _ _=_
   rw[zmU]
   exact zg (decide_eq_false (by omega)) rfl)
  (fun u v h1 h2 h3 hv=>by
   rw[Bool.not_eq_true',decide_eq_false_iff_not,zbn]at hv ⊢
   by_cases he:u=v
   .rw [he];exact hv
   .intro q
    refine hv (LtF.trans ?_ (q.trans (zdU hA (by omega) (by omega) (by omega) dF)))
    rw[<-List.append_assoc P A]
    exact zdU hB (by simp;omega) (by omega) (by simp;omega) dF) (hi-lo) F lo hi (by omega) (by omega) (by omega) (by omega) (by omega) (fun h q1 q2=>by omega) (fun h q1 q2=>by omega)
 refine Eq.trans s3 ?_
 show ze _ _=_
 refine zd (by unfold zh;omega) ?_
 rw[show((mid:Int)+((P.length+A.length:Nat):Int))-(s:Int)=((mid+(P.length+A.length)-s:Nat):Int) by omega]
 refine zH9 k F o P A B Q (by omega) hA hB hid hl a2 b2 hk s lo hi s1 s2 mid hm hlh (fun c q1 q2=>?_) (fun c q1 q2=>?_)
 .have:=s4 c q1 q2
  rw[Bool.not_eq_true',decide_eq_false_iff_not,zbn]at this
  exact this
 .have:=s5 c q1 q2
  rw[Bool.not_eq_false',decide_eq_true_eq,zbn]at this
  exact this
theorem zNu(k:Nat)(o:List (Elt zM))(a m b:Int)(l:List zk)(h:zsn (k+1) o a m b l):zL4 k 1002 a m b o l=znz (zaV o a b l):=by
 obtain⟨_,h0,h1,h2,h3,h4,h5,h6,h7,h8⟩:=h
 obtain⟨P,A,B,Q,rfl,ha,hm,hb⟩:=zsB l a m b ⟨h0,h1,h2,h3,h4⟩
 have hA:=(zco o P A (B++Q) a m ha hm).1 h7
 have hB:B.Pairwise (LtF o):=(zco o (P++A) B Q m b (by simp;omega) (by simp;omega)).1 (by rw[List.append_assoc];exact h8)
 have hi1:=(List.pairwise_append.1 h6).2.1
 have hi2:zes (A++B):=(List.pairwise_append.1 (List.append_assoc A B Q ▸ hi1)).1
 simp only[List.length_append]at h3 h4
 have sR:zaV o a b (P++(A++(B++Q)))=P++(zW o (A++B)++Q):=by
  rw[<-List.append_assoc A];exact zb4 o P (A++B) Q a b ha (by rw[hb,List.length_append];omega)
 rw[zL3,sR]
 refine zd (by unfold zh;omega) ?_
 by_cases c1:A.length=1
 .obtain ⟨x,rfl⟩:=List.length_eq_one_iff.1 c1
  refine zi (by rw[beq_iff_eq];omega) ?_
  rw[ha,hm,hb]
  exact zTk k 1002 o P B Q x (by omega) hB hi2 (by simp at h4;omega)
 refine zg (by rw[beq_eq_false_iff_ne];omega) (zd (by unfold zh;omega) ?_)
 by_cases c2:B.length=1
 .obtain ⟨x,rfl⟩:=List.length_eq_one_iff.1 c2
  refine zi (by rw[beq_iff_eq];omega) ?_
  rw[ha,hm]
  exact zTj k 1002 o P A Q x (by omega) hA (fun z hz=>(List.pairwise_append.1 hi2).2.2 z hz x (by simp)) (by simp at h4;omega)
 have hk:A.length+B.length<=2*2^k:=by rw[Nat.pow_succ]at h5;omega
 rw[ha,hb,zjz P.length _ (by omega),hm]
 refine zg (by rw[beq_eq_false_iff_ne];omega) (zd (by unfold zh;omega) (zd (by unfold zh;omega) ?_))
 by_cases c3:(P.length+(P.length+A.length+B.length))/2<P.length+A.length
 .refine zi (decide_eq_true (by omega)) (zd (by unfold zh;omega) ?_)
  have:=zQv k 1002 o P A B Q (by omega) hA hB h6 (by omega) (by omega) (by omega) hk ((P.length+(P.length+A.length+B.length))/2-B.length) _ _ rfl (.inl ⟨c3,rfl,rfl⟩)
  rw[show(((P.length+(P.length+A.length+B.length))/2:Nat):Int)+((P.length+A.length:Nat):Int)-((P.length+A.length+B.length:Nat):Int)=(((P.length+(P.length+A.length+B.length))/2-B.length:Nat):Int) by omega]
  exact this
 .refine zg (decide_eq_false (by omega)) ?_
  exact zQv k 1002 o P A B Q (by omega) hA hB h6 (by omega) (by omega) (by omega) hk _ _ _ rfl (.inr ⟨by omega,rfl,rfl⟩)
theorem zDn:∀ k,zS Tryz.prog 83 (zgV k)
 | 0=>by
  intro args ib kept r zZ ok he hok
  simp only[zgV]at he
  split at he
  .rename_i x y n ol R
   split at he
   .cases he
    obtain⟨_,h0,h1,h2,_,_,h5,_⟩:=hok
    exact absurd h5 (by simp;omega)
   .cases he
  .cases he
 | k+1=>by
  intro args ib kept r zZ ok he hok
  simp only[zgV]at he
  split at he
  .rename_i x y n ol R
   split at he
   .rename_i o l ho hl
    cases he
    obtain⟨rfl,_⟩:=zaj hl
    obtain⟨trivial,_⟩:=id hok
    exact⟨by kernel_rfl,FnR.lq (ys:=[.arr 70000,.p (.int .i64 x),.p (.int .i64 y),.p (.int .i64 n),.clo (.func 30) [.p (.list 3 (.dat zM o))] []]) ⟨LqG.refl _,LqG.refl _,LqG.refl _,LqG.refl _,zlK ho,trivial⟩
     (zO1 k (zDn k) 1002 x y n o l _ _ fun _=>zNu k o x y n l hok)⟩
   .cases he
  .cases he
abbrev zIc(o:List (Elt zM))(n:Int)(l:List zk):Prop:=zh8 o/\n=l.length/\l.length<=30/\zes l
abbrev zQz(o:List (Elt zM))(l:List zk):Prop:=zh8 o/\l.length<=30/\zes l
theorem zdb(o:List (Elt zM))(l:List zk)(b:Int)(hb:b=l.length):zaV o 0 b l=zW o l:=by
 have:=zb4 o [] l [] 0 b rfl (by rw[hb];simp)
 simpa using this
def zDV:Code:=yw Tryz.f50
def ztn:=mkG [] [(82,zug),(83,zgV 5)] 63 [70000] [([0,0,1,1],⟨[0,1,2,6,7,8],[⟨.fix 70000,70000,.cells []⟩]⟩),([0,1,1,1,1],⟨[0,1,2,6],[⟨.fix 70000,70000,.cells []⟩]⟩),([0,0,1,0,1,0,0,1,1,1,1],⟨[0,1,2,6,7,8],[⟨.fix 70000,70000,.cells []⟩]⟩),([1,1,1,0,1,0,0,1,1,1,1],⟨[0,1,2,6],[⟨.fix 70000,70000,.cells []⟩]⟩)] [([0,0,1,0,0,0,1,1],[4]),([0,1,1,1],[4]),([0,0,1,0,0,0,1,0,1,0,0,1,1,1,1],[7]),([0,1,1,0,1,1,0,1,0,0,1,1,1,1],[5])]
def zDw:K:=kR Tryz.prog [70000] ⟨[],[⟨.fix 70000,70000,.cells []⟩]⟩ [70000] Tryz.f50.results.toList
def zv4(F f1:Nat)(n:Int)(vl1:List (Int×List UInt8×Bool))(vi2 vi3:Int)(vl4:List zk):=zcI ztn zDV zDw F [] [1,1,0,0] f1 [(0,.arr 70000),(1,pI n),(2,.clo (.func 30) [pL 3 (.pair (.int .i64) (.pair .str .bool)) vl1] []),(6,pI 20),(7,pI vi2),(8,pI vi3)] [(70000,.larr 64 true 3 (.dat zt vl4))]
def zj9(F f2:Nat)(n:Int)(vl1:List (Int×List UInt8×Bool))(vi5:Int)(vl6:List zk):=zcI ztn zDV zDw F [] [1,1,1,1,0] f2 [(0,.arr 70000),(1,pI n),(2,.clo (.func 30) [pL 3 (.pair (.int .i64) (.pair .str .bool)) vl1] []),(6,pI vi5)] [(70000,.larr 64 true 3 (.dat zt vl6))]
def zv3(F f2 f3:Nat)(n:Int)(vl1:List (Int×List UInt8×Bool))(vi5 vi7 vi8:Int)(vl9:List zk):=zcI ztn zDV zDw F [f2] [1,1,1,1,0,0,1,0,1,0,0] f3 [(0,.arr 70000),(1,pI n),(2,.clo (.func 30) [pL 3 (.pair (.int .i64) (.pair .str .bool)) vl1] []),(6,pI vi5),(7,pI vi7),(8,pI vi8)] [(70000,.larr 64 true 3 (.dat zt vl9))]
def zv2(F f2:Nat)(n:Int)(vl1:List (Int×List UInt8×Bool))(vi5:Int)(vl10:List zk):=zcv ztn zDV zDw F [f2] [1,1,1,1,0,0,1,0,1,1,1] [(0,.arr 70000),(1,pI n),(2,.clo (.func 30) [pL 3 (.pair (.int .i64) (.pair .str .bool)) vl1] []),(6,pI vi5)] [(70000,.larr 64 true 3 (.dat zt vl10))]
def zL8(F:Nat)(n:Int)(o:List (Elt zM))(l:List zk):=zam ztn Tryz.f50 ⟨[],[⟨.fix 70000,70000,.cells []⟩]⟩ [70000] F [.arr 70000,pI n,.clo (.func 30) [pL 3 (.pair (.int .i64) (.pair .str .bool)) o] []] [(70000,.larr 64 true 3 (.dat zt l))]
theorem zqL(F f1 n vl1 vi2 vi3 vl4):zv4 F (f1+1) n vl1 vi2 vi3 vl4=cond (decide (vi3<=n)) (ze (zDC vl1 vi2 vi3 vl4) (ze (zh (vi3+20)) (zv4 F f1 n vl1 vi3 (vi3+20) (zaV vl1 vi2 vi3 vl4)))) (ze (zDC vl1 vi2 n vl4) (zj9 F F n vl1 20 (zaV vl1 vi2 n vl4))):=by kernel_rfl
theorem zqK(F f2 n vl1 vi5 vl6):zj9 F (f2+1) n vl1 vi5 vl6=cond (decide (vi5<n)) (ze (zh (2*vi5)) (zv3 F f2 f2 n vl1 vi5 0 (2*vi5) vl6)) (some (.tup [],[(70000,.larr 64 true 3 (.dat zt vl6))])):=by kernel_rfl
theorem zCN(F f2 f3 n vl1 vi5 vi7 vi8 vl9):letI A:=vi7+vi5;letI B:=2*vi5;zv3 F f2 (f3+1) n vl1 vi5 vi7 vi8 vl9=cond (decide (vi8<=n)) (ze (zh A) (ze (zsn 5 vl1 vi7 A vi8 vl9) (ze (zh B) (ze (zh (vi8+B)) (zv3 F f2 f3 n vl1 vi5 vi8 (vi8+B) (zaV vl1 vi7 vi8 vl9)))))) (ze (zh A) (cond (decide (A<n)) (ze (zsn 5 vl1 vi7 A n vl9) (zv2 F f2 n vl1 vi5 (zaV vl1 vi7 n vl9))) (zv2 F f2 n vl1 vi5 vl9))):=by kernel_rfl
theorem zCM(F f2 n vl1 vi5 vl10):zv2 F f2 n vl1 vi5 vl10=ze (zh (vi5*2)) (zj9 F f2 n vl1 (vi5*2) vl10):=by kernel_rfl
theorem zL7(F n o l):zL8 F n o l=zv4 F F n o 0 20 l:=by kernel_rfl
theorem zO3(F n o l r os):IsR 50 (zL8 F n o l) [.arr 70000,.p (.int .i64 n),.clo (.func 30) [.p (.list 3 (.dat (.pair (.int .i64) (.pair .str .bool)) o))] []] [(70000,.larr 64 true 3 (.dat zt l))] [70000] r os:=zb9 ztn ⟨[],[⟨.fix 70000,70000,.cells []⟩]⟩ [70000] rfl trivial (hr:=⟨zOu,zDn 5,trivial⟩)
theorem zNz(o:List (Elt zM))(n:Int)(l:List zk)(h:zIc o n l):zL8 3 n o l=znz (zaV o 0 l.length l):=by
 obtain⟨_,hn,h1,h2⟩:=h
 subst hn
 rw[zL7,zdb o l _ rfl]
 have hend:∀ (f:Nat) (v:Int) (l':List zk),v=40\/(l.length:Int)<=v->zj9 3 (f+1) (l.length:Int) o v l'=znz l':=fun f v l' hv=>by
  rw[zqK];exact zg (decide_eq_false (by omega)) rfl
 rw[show(3:Nat)=2+1 from rfl,zqL]
 by_cases c:l.length<20
 .refine zg (decide_eq_false (by omega)) (zd ⟨trivial,by omega,by omega,by omega,by omega,h2⟩ ?_)
  rw[zdb o l _ rfl]
  exact hend 2 _ _ (.inr (by omega))
 .obtain ⟨A,B,rfl,hA⟩:∃ A B,l=A++B/\A.length=20:=⟨l.take 20,l.drop 20,by simp,by rw[List.length_take];omega⟩
  have ll:(A++B).length=20+B.length:=by rw[List.length_append];omega
  have e1:zaV o 0 20 (A++B)=zW o A++B:=zb4 o [] A B 0 20 rfl (by rw[hA];rfl)
  have mA:(zW o A).length=20:=by rw[(ye o A).length_eq,hA]
  have mB:(zW o B).length=B.length:=(ye o B).length_eq
  have p1:(A++B).Perm (zW o A++B):=List.Perm.append_right B (ye o A).symm
  have p2:(A++B).Perm (zW o A++zW o B):=List.Perm.append (ye o A).symm (ye o B).symm
  have l1:(zW o A++B).length=20+B.length:=by rw[List.length_append,mA]
  have l2:(zW o A++zW o B).length=20+B.length:=by rw[List.length_append,mA,mB]
  obtain⟨iA,iB,_⟩:=List.pairwise_append.1 h2
  refine zi (decide_eq_true (by omega)) (zd ⟨trivial,by omega,by omega,by omega,by omega,h2⟩ (zd (by decide) ?_))
  rw[e1,show(2:Nat)=1+1 from rfl,zqL]
  have e2:zaV o 20 ((A++B).length:Int) (zW o A++B)=zW o A++zW o B:=by
   have:=zb4 o (zW o A) B [] 20 ((A++B).length:Int) (by rw[mA];rfl) (by rw[ll,mA])
   simpa using this
  refine zg (decide_eq_false (by omega)) (zd ⟨trivial,by omega,by omega,by rw[l1];omega,by rw[l1];omega,h2.perm p1⟩ ?_)
  rw[e2]
  by_cases hB:B=[]
  .subst hB
   rw[hend 2 20 _ (.inr (by rw[ll];decide)),List.append_nil,show zW o ([]:List zk)=[] by unfold zW;simp,List.append_nil]
  .have hB1:0<B.length:=List.length_pos_iff.2 hB
   show zj9 3 (2+1) _ _ _ _=_
   rw[zqK]
   refine zi (decide_eq_true (by omega)) (zd (by decide) ?_)
   rw[show(2:Nat)=1+1 from rfl,zCN]
   refine zg (decide_eq_false (by omega)) (zd (by decide) (zi (decide_eq_true (by omega)) (zd ⟨trivial,by omega,by omega,by omega,by rw[l2];omega,by rw[l2];omega,by omega,h2.perm p2,?_,?_⟩ ?_)))
   .have:=(zco o [] (zW o A) (zW o B) 0 20 rfl (by rw[mA];rfl)).2 (zgi iA)
    exact this
   .have:=(zco o (zW o A) (zW o B) [] 20 ((A++B).length:Int) (by rw[mA];rfl) (by rw[ll,mA,mB])).2 (zgi iB)
    rw[List.append_nil]at this
    exact this
   .rw [zCM]
    refine zd (by decide) ?_
    rw[show(1+1:Nat)=1+1 from rfl,hend 1 _ _ (.inl (by decide)),zdb o _ _ (by rw[ll,l2])]
    exact congrArg znz (zcy ((ye o _).trans p2) (zgi h2))
def zt0:yM:=⟨[false,true,true],fun args ib=>match args,ib with
 | [.arr 70000,.p (.int .i64 n),.clo (.func 30) [.p ol] []],[(70000,.larr 64 true 3 R)]=>match zA zM ol,zA zt (.list 3 R)with
  | some o,some l=>some (([70000],.tup []),([(70000,.larr 64 true 3 (.dat zt (zaV o 0 l.length l)))],some (zIc o n l)))
  | _,_=>none
 | _,_=>none⟩
theorem zOd:zS Tryz.prog 50 zt0:=by
 intro args ib kept r zZ ok he hok
 simp only[zt0]at he
 split at he
 .rename_i n ol R
  split at he
  .rename_i o l ho hl
   cases he
   obtain⟨rfl,_⟩:=zaj hl
   obtain⟨trivial,_⟩:=id hok
   exact⟨by kernel_rfl,FnR.lq (ys:=[.arr 70000,.p (.int .i64 n),.clo (.func 30) [.p (.list 3 (.dat zM o))] []]) ⟨LqG.refl _,LqG.refl _,zlK ho,trivial⟩
    (zO3 3 n o l _ _ fun _=>zNz o n l hok)⟩
  .cases he
 .cases he
def zQT:=mkG [] [(50,zt0)] 9 [70000] [] [([],[4])]
def zRb(F:Nat)(o:List (Elt zM))(l:List zk):=zam zQT Tryz.f29 ⟨[],[⟨.fix 70000,70000,.cells []⟩]⟩ [70000] F [.arr 70000,.clo (.func 30) [pL 3 (.pair (.int .i64) (.pair .str .bool)) o] []] [(70000,.larr 64 true 3 (.dat zt l))]
theorem zMb(F o l):zRb F o l=ze (zIc o (l.length:Int) l) (some (.tup [],[(70000,.larr 64 true 3 (.dat zt (zaV o 0 l.length l)))])):=by kernel_rfl
theorem zO5(F o l r os):IsR 29 (zRb F o l) [.arr 70000,.clo (.func 30) [.p (.list 3 (.dat (.pair (.int .i64) (.pair .str .bool)) o))] []] [(70000,.larr 64 true 3 (.dat zt l))] [70000] r os:=zb9 zQT ⟨[],[⟨.fix 70000,70000,.cells []⟩]⟩ [70000] rfl trivial (hr:=⟨zOd,trivial⟩)
def zt2:yM:=⟨[false,true],fun args ib=>match args,ib with
 | [.arr 70000,.clo (.func 30) [.p ol] []],[(70000,.larr 64 true 3 R)]=>match zA zM ol,zA zt (.list 3 R)with
  | some o,some l=>some (([70000],.tup []),([(70000,.larr 64 true 3 (.dat zt (zaV o 0 l.length l)))],some (zQz o l)))
  | _,_=>none
 | _,_=>none⟩
theorem zOf:zS Tryz.prog 29 zt2:=by
 intro args ib kept r zZ ok he hok
 simp only[zt2]at he
 split at he
 .rename_i ol R
  split at he
  .rename_i o l ho hl
   cases he
   obtain⟨rfl,_⟩:=zaj hl
   obtain⟨hc,h1,h2⟩:=id hok
   exact⟨by kernel_rfl,FnR.lq (ys:=[.arr 70000,.clo (.func 30) [.p (.list 3 (.dat zM o))] []]) ⟨LqG.refl _,zlK ho,trivial⟩
    (zO5 0 o l _ _ fun _=>by rw[zMb];exact zd ⟨hc,rfl,h1,h2⟩ rfl)⟩
  .cases he
 .cases he
def zbg(l:List zq)(f:List zr):List zk:=(l.filter (zbL f)).map qel
def yP(l:List zq)(f:List zr)(o:List (Elt zM)):List Int:=if zaq f then(zaV o 0 (zbg l f).length (zbg l f)).map idF else[]
abbrev zIB(l:List zq)(f:List zr)(o:List (Elt zM)):Prop:=zh8 o/\zbI f/\l.length<=30/\(l.Pairwise fun x y=>x.1≠y.1)/\∀ m ∈ l,zuR (zbX m).2.1/\m.2.2.1.length<=50000/\(zbH m.2.2.1).length<=1000000000/\zAK f m
theorem zF3(l:List zq)(f:List zr)(h:l.Pairwise fun x y=>x.1≠y.1):zes (zbg l f):=
 List.pairwise_map.2 ((h.filter (zbL f)).imp fun {x y} q=>q)
def zeg:=mkG [(21,zi9),(22,zgY),(23,zoP 41),(26,zoT),(27,zcW),(28,ze8)] [(29,zt2)] 74 [] [([0,1,0,1,1,1],⟨[1,2,7,17,18,19],[⟨.slot 7,7,(.larr 64 true 3 (.dat zt ([]:List zk)))⟩]⟩),([1,0,0,1,1,0,0,1,0,1,1,1],⟨[1,2,7,9,17,18,19],[⟨.slot 7,7,(.larr 64 true 3 (.dat zt ([]:List zk)))⟩,⟨.slot 9,9,.cells []⟩]⟩),([1,0,1,1,0,0,1,1,0,0,1,0,1,1,1],⟨[1,2,7,9,10,17,18,19,38],[⟨.slot 7,7,(.larr 64 true 3 (.dat zt ([]:List zk)))⟩,⟨.slot 9,9,.cells []⟩,⟨.slot 10,10,.cells []⟩]⟩),([1,1,1,0,0,1,0,1,1,1],⟨[1,2,7,17,18,19],[⟨.slot 7,7,(.larr 64 true 3 (.dat zt ([]:List zk)))⟩]⟩),([0,1,0,1,1,1,1,1,1],⟨[11,57,58,59],[⟨.slot 11,11,(.larr 3 false 1 (.dat (.int .i64) ([]:List Int)))⟩,⟨.slot 57,57,.cells []⟩]⟩),([1,0,0,1,1,0,0,1,0,1,1,1,1,1,1],⟨[11,13,57,58,59],[⟨.slot 11,11,(.larr 3 false 1 (.dat (.int .i64) ([]:List Int)))⟩,⟨.slot 13,13,.cells []⟩,⟨.slot 57,57,.cells []⟩]⟩)] [([0,1,1,1,1],[3])]
def zhJ(F f1:Nat)(f:List zr)(o:List (Int×List UInt8×Bool))(l:List zq)(vi1 vi2:Int)(vl3:List zk):=zH zeg Tryz.f16 F [] [1,1,1,0,1,0] f1 [(1,pL 6 zu f),(2,pL 3 (.pair (.int .i64) (.pair .str .bool)) o),(7,.arr 7),(17,pL 8 zE l),(18,pI vi1),(19,pI vi2)] [(7,.larr 64 true 3 (.dat zt vl3))]
def ztJ(F f1:Nat)(f:List zr)(o:List (Int×List UInt8×Bool))(l:List zq)(vi1 vi2:Int)(vl3:List zk)(vi4 vi5:Int)(vs6:List UInt8)(vi7:Int)(vl8:List (List UInt8))(vl9:List (Int×Int))(vi10 vi11:Int):=zx zeg Tryz.f16 F [f1] [1,1,1,0,1,0,0,1,1,0,0,1] [(1,pL 6 zu f),(2,pL 3 (.pair (.int .i64) (.pair .str .bool)) o),(7,.arr 7),(9,.ref 9 0),(17,pL 8 zE l),(18,pI vi1),(19,pI vi2)] [(7,.larr 64 true 3 (.dat zt vl3)),(9,.cells [pI vi4,pI vi5,pS vs6,pI vi7,pL 1 .str vl8,pL 2 (.pair (.int .i64) (.int .i64)) vl9,pI vi10,pI vi11])]
def zmh(F f1:Nat)(f:List zr)(o:List (Int×List UInt8×Bool))(l:List zq)(vi1 vi2:Int)(vc12:Bool)(vl3:List zk)(vi4 vi5:Int)(vs6:List UInt8)(vi7:Int)(vl8:List (List UInt8))(vl9:List (Int×Int))(vi10 vi11:Int)(vp13:yd):=zx zeg Tryz.f16 F [f1] [1,1,1,0,1,0,0,1,1,0,0,1,1,0,1] [(1,pL 6 zu f),(2,pL 3 (.pair (.int .i64) (.pair .str .bool)) o),(7,.arr 7),(9,.ref 9 0),(10,.ref 10 0),(17,pL 8 zE l),(18,pI vi1),(19,pI vi2),(38,pB vc12)] [(7,.larr 64 true 3 (.dat zt vl3)),(9,.cells [pI vi4,pI vi5,pS vs6,pI vi7,pL 1 .str vl8,pL 2 (.pair (.int .i64) (.int .i64)) vl9,pI vi10,pI vi11]),(10,.cells [.p (.box 10 (cell zD vp13)),pS ([]:List UInt8),pS ([]:List UInt8)])]
def zmg(F f1:Nat)(f:List zr)(o:List (Int×List UInt8×Bool))(l:List zq)(vi1 vi2:Int)(vl14:List zk):=zx zeg Tryz.f16 F [f1] [1,1,1,0,1,0,0,1,1,1] [(1,pL 6 zu f),(2,pL 3 (.pair (.int .i64) (.pair .str .bool)) o),(7,.arr 7),(17,pL 8 zE l),(18,pI vi1),(19,pI vi2)] [(7,.larr 64 true 3 (.dat zt vl14))]
def zhI(F f2:Nat)(vi15 vi16:Int)(vl17:List Int)(vl18:List zk):=zH zeg Tryz.f16 F [] [1,1,1,1,1,1,0,1,0] f2 [(11,.arr 11),(57,.arr 57),(58,pI vi15),(59,pI vi16)] [(11,.larr 3 false 1 (.dat (.int .i64) vl17)),(57,.larr 64 true 3 (.dat zt vl18))]
def ztI(F f2:Nat)(vi15 vi16:Int)(vl17:List Int)(vp19:yd)(vs20 vs21:List UInt8)(vl18:List zk):=zx zeg Tryz.f16 F [f2] [1,1,1,1,1,1,0,1,0,0,1,1,0,0,1] [(11,.arr 11),(13,.ref 13 0),(57,.arr 57),(58,pI vi15),(59,pI vi16)] [(11,.larr 3 false 1 (.dat (.int .i64) vl17)),(13,.cells [.p (.box 10 (cell zD vp19)),pS vs20,pS vs21]),(57,.larr 64 true 3 (.dat zt vl18))]
def zEu(F:Nat)(l:List zq)(f:List zr)(o:List (Int×List UInt8×Bool)):=zF zeg Tryz.f16 F [pL 8 zE l,pL 6 zu f,pL 3 (.pair (.int .i64) (.pair .str .bool)) o]
theorem zkM(F f1 f o l vi1 vi2 vl3):letI A:=l.getD vi2.toNat ((0:Int),((0:Int),([],((0:Int),([],([],((0:Int),(0:Int))))))));letI B:=zaV o 0 vl3.length vl3;zhJ F (f1+1) f o l vi1 vi2 vl3=cond (decide (vi2<vi1)) (ze (0<=vi2/\vi2<(l.length:Int)) (ztJ F f1 f o l vi1 vi2 vl3 A.1 A.2.1 A.2.2.1 A.2.2.2.1 A.2.2.2.2.1 A.2.2.2.2.2.1 A.2.2.2.2.2.2.1 A.2.2.2.2.2.2.2)) (ze (zQz o vl3) (zhI F F (B.length:Int) 0 ([]:List Int) B)):=by kernel_rfl
theorem zwt(F f1 f o l vi1 vi2 vl3 vi4 vi5 vs6 vi7 vl8 vl9 vi10 vi11):letI A:=zbX (vi4,vi5,vs6,vi7,vl8,vl9,vi10,vi11);letI B:=(f.length:Int);letI C:=decide (B>0);ztJ F f1 f o l vi1 vi2 vl3 vi4 vi5 vs6 vi7 vl8 vl9 vi10 vi11=ze (vs6.length<=1000000) (ze (C=true->zh (B-1)) (ze (C=true->ziM 41 A f (B-1)) (zmh F f1 f o l vi1 vi2 (C&&(!(hGF 41 A f (B-1)))) vl3 vi4 vi5 vs6 vi7 vl8 vl9 vi10 vi11 A))):=letI A:=(decide ((f.length:Int)>0))=true;Eq.trans (by kernel_rfl) (zf (nI A (nI A (nI A (zf (nI A (nI A (nI A (zf (nI A (nI A rfl)))))))))))
theorem zws(F f1 f o l vi1 vi2 vc12 vl3 vi4 vi5 vs6 vi7 vl8 vl9 vi10 vi11 vp13):letI A:=zbH vs6;zmh F f1 f o l vi1 vi2 vc12 vl3 vi4 vi5 vs6 vi7 vl8 vl9 vi10 vi11 vp13=cond vc12 (zmg F f1 f o l vi1 vi2 vl3) (ze (zuR vp13.2.1) (ze (vs6.length<=50000) (ze (A.length<=140737488355328) (ze ((vl3.length+[(vp13,(zs0 vp13.2.1,zL A))].length)*40<=140737488355328) (zmg F f1 f o l vi1 vi2 (vl3++[(vp13,(zs0 vp13.2.1,zL A))])))))):=by kernel_rfl
theorem zkL(F f1 f o l vi1 vi2 vl14):zmg F f1 f o l vi1 vi2 vl14=ze (zh (vi2+1)) (zhJ F f1 f o l vi1 (vi2+1) vl14):=by kernel_rfl
theorem zkK(F f2 vi15 vi16 vl17 vl18):letI A:=vl18.getD vi16.toNat ((((0:Int),((0:Int),([],((0:Int),([],([],((0:Int),(0:Int)))))))),([],[])),([],[]));zhI F (f2+1) vi15 vi16 vl17 vl18=cond (decide (vi16<vi15)) (ze (0<=vi16/\vi16<(vl18.length:Int)) (ze (vi16.toNat<vl18.length) (ztI F f2 vi15 vi16 vl17 A.1 A.2.1 A.2.2 vl18))) (some (.p (.list 1 (.dat (.int .i64) vl17)),[])):=by kernel_rfl
theorem zwr(F f2 vi15 vi16 vl17 vp19 vs20 vs21 vl18):ztI F f2 vi15 vi16 vl17 vp19 vs20 vs21 vl18=ze ((vl17.length+[vp19.1.1].length)*8<=140737488355328) (ze (zh (vi16+1)) (zhI F f2 vi15 (vi16+1) (vl17++[vp19.1.1]) vl18)):=by kernel_rfl
theorem zqs(F l f o):zEu F l f o=ze (zbI f) (cond (!(zaq f)) (some (.p .nil,[])) (zhJ F F f o l (l.length:Int) 0 ([]:List zk))):=by kernel_rfl
theorem zs2(F l f o r):IsP 16 (zEu F l f o) [.p (.list 8 (.dat zE l)),.p (.list 6 (.dat zu f)),.p (.list 3 (.dat (.pair (.int .i64) (.pair .str .bool)) o))] r:=zG zeg rfl ⟨zxd.any,zsM.any,(zQB 41).any,zI9.any,zfg.any,zpo.any,trivial⟩ (hr:=⟨zOf,trivial⟩)
theorem qG_5(F:Nat)(l:List zk)(hl:l.length<=30):∀ (r:List zk) (f2 i:Nat) (acc:List Int),l.drop i=r->i+r.length=l.length->r.length<f2->acc.length=i->
 zhI F f2 (l.length:Int) (i:Int) acc l=some (.p (.list 1 (.dat (.int .i64) (acc++r.map idF))),[])
 | [],f2,i,acc,hd,hi,hf,ha=>by
  obtain⟨f2,rfl⟩:∃ k,f2=k+1:=⟨f2-1,by omega⟩
  have hi:i=l.length:=by simpa using hi
  rw[zkK]
  exact zg (decide_eq_false (by omega)) (by simp)
 | x::r,f2,i,acc,hd,hi,hf,ha=>by
  obtain⟨f2,rfl⟩:∃ k,f2=k+1:=⟨f2-1,by omega⟩
  obtain⟨hg,hd2,hlt⟩:=yF hd dF
  rw[List.length_cons]at hi hf
  rw[zkK,Int.toNat_natCast,hg]
  refine zi (decide_eq_true (by omega)) (zd ⟨by omega,by omega⟩ (zd hlt ?_))
  rw[zwr]
  refine zd (by simp;omega) (zd (by unfold zh;omega) ?_)
  rw[show((i:Int)+1)=((i+1:Nat):Int) by omega,qG_5 F l hl r f2 (i+1) _ hd2 (by omega) (by omega) (by simp;omega),List.map_cons,List.append_assoc]
  rfl
theorem zRH(F:Nat)(l:List zq)(f:List zr)(o:List (Elt zM))(hF:40<=F)(h:zIB l f o)(hr:zaq f=true):∀ (r:List zq) (f1 i:Nat) (acc:List zk),l.drop i=r->i+r.length=l.length->r.length<f1->acc.length<=i->acc++zbg r f=zbg l f->
 zhJ F f1 f o l (l.length:Int) (i:Int) acc=some (.p (.list 1 (.dat (.int .i64) ((zaV o 0 (zbg l f).length (zbg l f)).map idF))),[])
 | [],f1,i,acc,hd,hi,hf,ha,he=>by
  obtain⟨f1,rfl⟩:∃ k,f1=k+1:=⟨f1-1,by omega⟩
  have hi:i=l.length:=by simpa using hi
  have he:acc=zbg l f:=by rw[<-he];simp[zbg]
  subst he
  obtain⟨_,h2,h3,h4,_⟩:=h
  have hls:(zaV o 0 (zbg l f).length (zbg l f)).length=(zbg l f).length:=by rw[zdb o _ _ rfl];exact(ye o _).length_eq
  rw[zkM]
  refine zg (decide_eq_false (by omega)) (zd ⟨trivial,by omega,zF3 l f h4⟩ ?_)
  exact qG_5 F _ (by omega) _ F 0 [] rfl (by simp) (by omega) rfl
 | m::r,f1,i,acc,hd,hi,hf,ha,he=>by
  obtain⟨f1,rfl⟩:∃ k,f1=k+1:=⟨f1-1,by omega⟩
  obtain⟨hg,hd2,hlt⟩:=yF hd ((0:Int),((0:Int),(([]:List UInt8),((0:Int),(([]:List (List UInt8)),(([]:List (Int×Int)),((0:Int),(0:Int))))))))
  have hm:m ∈ l:=by rw[<-hg];exact yi hlt _
  rw[List.length_cons]at hi hf
  obtain⟨h1,h2,h3,h4,h5⟩:=id h
  obtain⟨m1,m2,m3,m4⟩:=h5 m hm
  have hsm:=h2.1
  rw[zkM,Int.toNat_natCast,hg]
  refine zi (decide_eq_true (by omega)) (zd ⟨by omega,by omega⟩ ?_)
  rw[zwt]
  refine zd m4.2.1 (zd (fun _=>by unfold zh;omega) (zd (fun q=>m4.2.2 hr (by rw[decide_eq_true_eq]at q;omega)) ?_))
  show zmh F f1 f o l _ _ (decide ((f.length:Int)>(0:Int))&&(!(hGF 41 (zbX m) f ((f.length:Int)-(1:Int))))) acc _ _ _ _ _ _ _ _ (zbX m)=_
  have hh:zbL f m=!(decide ((f.length:Int)>(0:Int))&&(!(hGF 41 (zbX m) f ((f.length:Int)-(1:Int))))):=by
   rw[zbL,hr,Bool.true_and,Bool.not_and,Bool.not_not]
   congr 1
   by_cases h0:f.length=0
   .rw [h0];rfl
   .rw [decide_eq_true (show(f.length:Int)>0 by omega),beq_eq_false_iff_ne.2 (show(f.length:Int)≠0 by omega)];rfl
  rw[zws]
  cases hc:(decide ((f.length:Int)>(0:Int))&&(!(hGF 41 (zbX m) f ((f.length:Int)-(1:Int)))))with
  | true=>
   rw[hc]at hh
   refine zi rfl ?_
   rw[zkL]
   refine zd (by unfold zh;omega) ?_
   rw[show((i:Int)+1)=((i+1:Nat):Int) by omega]
   exact zRH F l f o hF h hr r f1 (i+1) acc hd2 (by omega) (by omega) (by omega) (by rw[<-he];simp[zbg,hh])
  | false=>
   rw[hc]at hh
   refine zg rfl (zd m1 (zd m2 (zd (by omega) (zd (by simp;omega) ?_))))
   rw[zkL]
   refine zd (by unfold zh;omega) ?_
   rw[show((i:Int)+1)=((i+1:Nat):Int) by omega]
   exact zRH F l f o hF h hr r f1 (i+1) _ hd2 (by omega) (by omega) (by simp;omega) (by rw[<-he];simp[zbg,hh,qel,zmo])
def zlq:List AV->Option (AV×Option Prop)
 | [.p l,.p f,.p o]=>match zA zE l,zA zu f,zA zM o with
  | some l,some f,some o=>some (.p (.list 1 (.dat (.int .i64) (yP l f o))),some (zIB l f o))
  | _,_,_=>none
 | _=>none
theorem zFC:zn Tryz.prog 16 zlq:=by
 intro zs r ok he hok
 unfold zlq at he
 split at he
 .rename_i l' f' o'
  split at he
  .rename_i l f o hl hf ho
   cases he
   have hok:zIB l f o:=hok
   refine⟨by kernel_rfl,FnP.lq (ys:=[.p (.list 8 (.dat zE l)),.p (.list 6 (.dat zu f)),.p (.list 3 (.dat zM o))]) ⟨Lq.list (a:=zE) hl,Lq.list (a:=zu) hf,Lq.list (a:=zM) ho,trivial⟩ ?_⟩
   rw[yP]
   cases hr:zaq f with
   | true=>
    exact zs2 41 l f o _ fun _=>by
     rw[zqs,hr]
     exact zd hok.2.1 (zg rfl (zRH 41 l f o (by omega) hok hr l 41 0 [] rfl (by simp) (by have:=hok.2.2.1;omega) (by simp) (by simp)))
   | false=>
    refine FnP.weak (r:=.p .nil) (zs2 41 l f o _ fun _=>?_) fun M v h=>zp.nil_list rfl h
    rw[zqs,hr]
    exact zd hok.2.1 (zi rfl rfl)
  .cases he
 .cases he
theorem zlc(s:List UInt8):(zbH s).length<=48*s.length:=by
 have h1:=zlb s
 have h2:=zex (zf4 s)
 have h3:=ziT (zcm (zf4 s))
 unfold zbH zdo
 split <;> omega
abbrev zGL(a b:zq):Prop:=a.2.2.1.length<=30000/\b.2.2.1.length<=30000
def zLv:=mkG [(25,zcq),(92,zoF),(93,zoE),(94,zoG),(95,zf6),(96,zt6)] [] 67 [] [([1,1,1],⟨[5,7],[⟨.slot 5,5,.cells []⟩]⟩)] []
def zci(F:Nat)(vi1 vi2:Int)(vs3:List UInt8)(vc4:Bool):=zx zLv Tryz.f55 F [] [1,1,1] [(5,.ref 5 0),(7,pI vi1)] [(5,.cells [pI vi2,pS vs3,pB vc4])]
def zMn(F:Nat)(ida tha:Int)(txa:List UInt8)(at_a:Int)(kea:List (List UInt8))(mea:List (Int×Int))(moa boa idb thb:Int)(txb:List UInt8)(at_b:Int)(keb:List (List UInt8))(meb:List (Int×Int))(mob bob k:Int)(tx:List UInt8)(dn:Bool):=zF zLv Tryz.f55 F [.agg [pI ida,pI tha,pS txa,pI at_a,pL 1 .str kea,pL 2 (.pair (.int .i64) (.int .i64)) mea,pI moa,pI boa],.agg [pI idb,pI thb,pS txb,pI at_b,pL 1 .str keb,pL 2 (.pair (.int .i64) (.int .i64)) meb,pI mob,pI bob],.agg [pI k,pS tx,pB dn]]
theorem zCY(F vi1 vi2 vs3 vc4):zci F vi1 vi2 vs3 vc4=cond vc4 (ze (zh (0-vi1)) (some (.p (.int .i64 (0-vi1)),[]))) (some (.p (.int .i64 vi1),[])):=by kernel_rfl
theorem zMm(F ida tha txa at_a kea mea moa boa idb thb txb at_b keb meb mob bob k tx dn):zMn F ida tha txa at_a kea mea moa boa idb thb txb at_b keb meb mob bob k tx dn=cond (k==1) (zci F (zab at_a at_b) k tx dn) (cond (k==2) (zci F (zab (txa.length:Int) (txb.length:Int)) k tx dn) (cond (k==3) (ze (txa.length<=30000) (ze (txb.length<=30000) (zci F (zba (zmo (ida,(tha,(txa,(at_a,(kea,(mea,(moa,boa)))))))) (zmo (idb,(thb,(txb,(at_b,(keb,(meb,(mob,bob))))))))) k tx dn))) (cond (k==4) (ze (txa.length<=50000) (ze ((zbH txa).length<=140737488355328) (ze (txb.length<=50000) (ze ((zbH txb).length<=140737488355328) (zci F (zba (zL (zbH txa)) (zL (zbH txb))) k tx dn))))) (cond (k==5) (zci F (zab (zlT kea tx) (zlT keb tx)) k tx dn) (cond (k==6) (zci F (zab ida idb) k tx dn) (zci F 0 k tx dn)))))):=by kernel_rfl
theorem zPc(F ida tha txa at_a kea mea moa boa idb thb txb at_b keb meb mob bob k tx dn r):IsP 55 (zMn F ida tha txa at_a kea mea moa boa idb thb txb at_b keb meb mob bob k tx dn) [.agg [.p (.int .i64 ida),.p (.int .i64 tha),.p (.str txa),.p (.int .i64 at_a),.p (.list 1 (.dat .str kea)),.p (.list 2 (.dat (.pair (.int .i64) (.int .i64)) mea)),.p (.int .i64 moa),.p (.int .i64 boa)],.agg [.p (.int .i64 idb),.p (.int .i64 thb),.p (.str txb),.p (.int .i64 at_b),.p (.list 1 (.dat .str keb)),.p (.list 2 (.dat (.pair (.int .i64) (.int .i64)) meb)),.p (.int .i64 mob),.p (.int .i64 bob)],.agg [.p (.int .i64 k),.p (.str tx),.p (.bool dn)]] r:=zG zLv rfl ⟨zeG.any,zIU.any,zIT.any,zIV.any,zxc.any,zOj.any,trivial⟩
theorem zNY(ida tha:Int)(txa:List UInt8)(at_a:Int)(kea:List (List UInt8))(mea:List (Int×Int))(moa boa idb thb:Int)(txb:List UInt8)(at_b:Int)(keb:List (List UInt8))(meb:List (Int×Int))(mob bob k:Int)(tx:List UInt8)(dn:Bool)
 (h:zGL (ida,tha,txa,at_a,kea,mea,moa,boa) (idb,thb,txb,at_b,keb,meb,mob,bob)):
 zMn 0 ida tha txa at_a kea mea moa boa idb thb txb at_b keb meb mob bob k tx dn=some (.p (.int .i64 (zjT (k,(tx,dn)) (ida,tha,txa,at_a,kea,mea,moa,boa) (idb,thb,txb,at_b,keb,meb,mob,bob))),[]):=by
 obtain⟨h1,h2⟩:=h
 have h1:txa.length<=30000:=h1
 have h2:txb.length<=30000:=h2
 have s1:=zlc txa
 have s2:=zlc txb
 have hend:∀ c:Int,(c=-1\/c=0\/c=1)->zci 0 c k tx dn=some (.p (.int .i64 (if dn=true then 0-c else c)),[]):=fun c hc=>by
  rw[zCY]
  cases dn with
  | true=>exact zi rfl (zd (by unfold zh;omega) rfl)
  | false=>rfl
 have hb:=zPJ k tx (ida,tha,txa,at_a,kea,mea,moa,boa) (idb,thb,txb,at_b,keb,meb,mob,bob)
 rw[zMm,zjT]
 have hcm:∀ c:Int,zhV k tx (ida,tha,txa,at_a,kea,mea,moa,boa) (idb,thb,txb,at_b,keb,meb,mob,bob)=c->zci 0 c k tx dn=some (.p (.int .i64 (if dn=true then 0-zhV k tx (ida,tha,txa,at_a,kea,mea,moa,boa) (idb,thb,txb,at_b,keb,meb,mob,bob) else zhV k tx (ida,tha,txa,at_a,kea,mea,moa,boa) (idb,thb,txb,at_b,keb,meb,mob,bob))),[]):=fun c hc=>by
  rw[hc]at hb ⊢
  exact hend c hb
 by_cases k1:k=1
 .exact zi (beq_iff_eq.2 k1) (hcm _ (by unfold zhV;rw[if_pos k1]))
 refine zg (beq_eq_false_iff_ne.2 k1) ?_
 by_cases k2:k=2
 .exact zi (beq_iff_eq.2 k2) (hcm _ (by unfold zhV;rw[if_neg k1,if_pos k2]))
 refine zg (beq_eq_false_iff_ne.2 k2) ?_
 by_cases k3:k=3
 .exact zi (beq_iff_eq.2 k3) (zd h1 (zd h2 (hcm _ (by unfold zhV;rw[if_neg k1,if_neg k2,if_pos k3]))))
 refine zg (beq_eq_false_iff_ne.2 k3) ?_
 by_cases k4:k=4
 .exact zi (beq_iff_eq.2 k4) (zd (by omega) (zd (by omega) (zd (by omega) (zd (by omega) (hcm _ (by unfold zhV;rw[if_neg k1,if_neg k2,if_neg k3,if_pos k4]))))))
 refine zg (beq_eq_false_iff_ne.2 k4) ?_
 by_cases k5:k=5
 .exact zi (beq_iff_eq.2 k5) (hcm _ (by unfold zhV;rw[if_neg k1,if_neg k2,if_neg k3,if_neg k4,if_pos k5]))
 refine zg (beq_eq_false_iff_ne.2 k5) ?_
 by_cases k6:k=6
 .exact zi (beq_iff_eq.2 k6) (hcm _ (by unfold zhV;rw[if_neg k1,if_neg k2,if_neg k3,if_neg k4,if_neg k5,if_pos k6]))
 .exact zg (beq_eq_false_iff_ne.2 k6) (hcm _ (by unfold zhV;rw[if_neg k1,if_neg k2,if_neg k3,if_neg k4,if_neg k5,if_neg k6]))
def zua:List AV->Option (AV×Option Prop)
 | [.agg [.p (.int .i64 id),.p (.int .i64 th),.p (.str x),.p (.int .i64 at_),.p ke,.p me,.p (.int .i64 mo),.p (.int .i64 bo)],.agg [.p (.int .i64 id2),.p (.int .i64 th2),.p (.str x2),.p (.int .i64 at2),.p ke2,.p me2,.p (.int .i64 mo2),.p (.int .i64 bo2)],.agg [.p (.int .i64 k),.p (.str tx),.p (.bool dn)]]=>
  match zA .str ke,zA mbC me,zA .str ke2,zA mbC me2 with
  | some ke',some me',some ke2',some me2'=>some (.p (.int .i64 (zjT (k,(tx,dn)) (id,th,x,at_,ke',me',mo,bo) (id2,th2,x2,at2,ke2',me2',mo2,bo2))),some (zGL (id,th,x,at_,ke',me',mo,bo) (id2,th2,x2,at2,ke2',me2',mo2,bo2)))
  | _,_,_,_=>none
 | _=>none
theorem zOn:zn Tryz.prog 55 zua:=by
 intro zs r ok he hok
 unfold zua at he
 split at he
 .rename_i id th x at_ ke me mo bo id2 th2 x2 at2 ke2 me2 mo2 bo2 k tx dn
  split at he
  .rename_i ke' me' ke2' me2' h1 h2 h3 h4
   cases he
   exact⟨by kernel_rfl,FnP.lq (ys:=[.agg [.p (.int .i64 id),.p (.int .i64 th),.p (.str x),.p (.int .i64 at_),.p (.list (wid .str) (.dat .str ke')),.p (.list (wid mbC) (.dat mbC me')),.p (.int .i64 mo),.p (.int .i64 bo)],.agg [.p (.int .i64 id2),.p (.int .i64 th2),.p (.str x2),.p (.int .i64 at2),.p (.list (wid .str) (.dat .str ke2')),.p (.list (wid mbC) (.dat mbC me2')),.p (.int .i64 mo2),.p (.int .i64 bo2)],.agg [.p (.int .i64 k),.p (.str tx),.p (.bool dn)]])
    ⟨zd2 h1 h2,zd2 h3 h4,Lq.refl _,trivial⟩ (zPc 0 id th x at_ ke' me' mo bo id2 th2 x2 at2 ke2' me2' mo2 bo2 k tx dn _ fun _=>zNY id th x at_ ke' me' mo bo id2 th2 x2 at2 ke2' me2' mo2 bo2 k tx dn hok)⟩
  .cases he
 .cases he
def zn0:=mkG [(55,zua)] [] 31 [] [([0,1,0,1],⟨[2,3,4,7],[⟨.slot 3,3,.cells []⟩,⟨.slot 4,4,.cells []⟩]⟩),([1,0,0,1,0,0,1,0,1],⟨[2,3,4,7,8],[⟨.slot 3,3,.cells []⟩,⟨.slot 4,4,.cells []⟩]⟩)] []
def zhB(F f1:Nat)(o:List (Int×List UInt8×Bool))(vi1 vi2 vi3:Int)(vs4:List UInt8)(vi5:Int)(vl6:List (List UInt8))(vl7:List (Int×Int))(vi8 vi9 vi10 vi11:Int)(vs12:List UInt8)(vi13:Int)(vl14:List (List UInt8))(vl15:List (Int×Int))(vi16 vi17:Int):=zH zn0 Tryz.f32 F [] [1,0,1,0] f1 [(2,pL 3 (.pair (.int .i64) (.pair .str .bool)) o),(3,.ref 3 0),(4,.ref 4 0),(7,pI vi1)] [(3,.cells [pI vi2,pI vi3,pS vs4,pI vi5,pL 1 .str vl6,pL 2 (.pair (.int .i64) (.int .i64)) vl7,pI vi8,pI vi9]),(4,.cells [pI vi10,pI vi11,pS vs12,pI vi13,pL 1 .str vl14,pL 2 (.pair (.int .i64) (.int .i64)) vl15,pI vi16,pI vi17])]
def zme(F f1:Nat)(o:List (Int×List UInt8×Bool))(vi1 vi18 vi2 vi3:Int)(vs4:List UInt8)(vi5:Int)(vl6:List (List UInt8))(vl7:List (Int×Int))(vi8 vi9 vi10 vi11:Int)(vs12:List UInt8)(vi13:Int)(vl14:List (List UInt8))(vl15:List (Int×Int))(vi16 vi17:Int):=zx zn0 Tryz.f32 F [f1] [1,0,1,0,0,1,0,0,1] [(2,pL 3 (.pair (.int .i64) (.pair .str .bool)) o),(3,.ref 3 0),(4,.ref 4 0),(7,pI vi1),(8,pI vi18)] [(3,.cells [pI vi2,pI vi3,pS vs4,pI vi5,pL 1 .str vl6,pL 2 (.pair (.int .i64) (.int .i64)) vl7,pI vi8,pI vi9]),(4,.cells [pI vi10,pI vi11,pS vs12,pI vi13,pL 1 .str vl14,pL 2 (.pair (.int .i64) (.int .i64)) vl15,pI vi16,pI vi17])]
def zEt(F:Nat)(ida tha:Int)(txa:List UInt8)(at_a:Int)(kea:List (List UInt8))(mea:List (Int×Int))(moa boa idb thb:Int)(txb:List UInt8)(at_b:Int)(keb:List (List UInt8))(meb:List (Int×Int))(mob bob:Int)(o:List (Int×List UInt8×Bool)):=zF zn0 Tryz.f32 F [.agg [pI ida,pI tha,pS txa,pI at_a,pL 1 .str kea,pL 2 (.pair (.int .i64) (.int .i64)) mea,pI moa,pI boa],.agg [pI idb,pI thb,pS txb,pI at_b,pL 1 .str keb,pL 2 (.pair (.int .i64) (.int .i64)) meb,pI mob,pI bob],pL 3 (.pair (.int .i64) (.pair .str .bool)) o]
theorem zkw(F f1 o vi1 vi2 vi3 vs4 vi5 vl6 vl7 vi8 vi9 vi10 vi11 vs12 vi13 vl14 vl15 vi16 vi17):letI A:=o.getD vi1.toNat ((0:Int),([],false));letI B:=(o.length:Int);zhB F (f1+1) o vi1 vi2 vi3 vs4 vi5 vl6 vl7 vi8 vi9 vi10 vi11 vs12 vi13 vl14 vl15 vi16 vi17=cond (decide (vi1<B)) (ze (0<=vi1/\vi1<B) (ze (zGL (vi2,(vi3,(vs4,(vi5,(vl6,(vl7,(vi8,vi9))))))) (vi10,(vi11,(vs12,(vi13,(vl14,(vl15,(vi16,vi17)))))))) (zme F f1 o vi1 (zjT (A.1,(A.2.1,A.2.2)) (vi2,(vi3,(vs4,(vi5,(vl6,(vl7,(vi8,vi9))))))) (vi10,(vi11,(vs12,(vi13,(vl14,(vl15,(vi16,vi17)))))))) vi2 vi3 vs4 vi5 vl6 vl7 vi8 vi9 vi10 vi11 vs12 vi13 vl14 vl15 vi16 vi17))) (some (.p (.bool (decide (vi2<vi10))),[])):=by kernel_rfl
theorem zwi(F f1 o vi1 vi18 vi2 vi3 vs4 vi5 vl6 vl7 vi8 vi9 vi10 vi11 vs12 vi13 vl14 vl15 vi16 vi17):zme F f1 o vi1 vi18 vi2 vi3 vs4 vi5 vl6 vl7 vi8 vi9 vi10 vi11 vs12 vi13 vl14 vl15 vi16 vi17=cond (vi18 != 0) (some (.p (.bool (decide (vi18<0))),[])) (ze (zh (vi1+1)) (zhB F f1 o (vi1+1) vi2 vi3 vs4 vi5 vl6 vl7 vi8 vi9 vi10 vi11 vs12 vi13 vl14 vl15 vi16 vi17)):=by kernel_rfl
theorem zBT(F ida tha txa at_a kea mea moa boa idb thb txb at_b keb meb mob bob o):zEt F ida tha txa at_a kea mea moa boa idb thb txb at_b keb meb mob bob o=zhB F F o 0 ida tha txa at_a kea mea moa boa idb thb txb at_b keb meb mob bob:=by kernel_rfl
theorem zGd(F ida tha txa at_a kea mea moa boa idb thb txb at_b keb meb mob bob o r):IsP 32 (zEt F ida tha txa at_a kea mea moa boa idb thb txb at_b keb meb mob bob o) [.agg [.p (.int .i64 ida),.p (.int .i64 tha),.p (.str txa),.p (.int .i64 at_a),.p (.list 1 (.dat .str kea)),.p (.list 2 (.dat (.pair (.int .i64) (.int .i64)) mea)),.p (.int .i64 moa),.p (.int .i64 boa)],.agg [.p (.int .i64 idb),.p (.int .i64 thb),.p (.str txb),.p (.int .i64 at_b),.p (.list 1 (.dat .str keb)),.p (.list 2 (.dat (.pair (.int .i64) (.int .i64)) meb)),.p (.int .i64 mob),.p (.int .i64 bob)],.p (.list 3 (.dat (.pair (.int .i64) (.pair .str .bool)) o))] r:=zG zn0 rfl ⟨zOn.any,trivial⟩
theorem zmq(F:Nat)(o:List (Elt zM))(a b:zq)(hok:zGL a b)(hl:o.length<=maxLen):∀ (r:List (Elt zM)) (f i:Nat),o.drop i=r->i+r.length=o.length->r.length<f->
 zhB F f o (i:Int) a.1 a.2.1 a.2.2.1 a.2.2.2.1 a.2.2.2.2.1 a.2.2.2.2.2.1 a.2.2.2.2.2.2.1 a.2.2.2.2.2.2.2 b.1 b.2.1 b.2.2.1 b.2.2.2.1 b.2.2.2.2.1 b.2.2.2.2.2.1 b.2.2.2.2.2.2.1 b.2.2.2.2.2.2.2=some (.p (.bool (decide (zrJ r a b<0))),[])
 | [],f,i,hd,hi,hf=>by
  obtain⟨f,rfl⟩:∃ k,f=k+1:=⟨f-1,by omega⟩
  have hi:i=o.length:=by simpa using hi
  rw[zkw]
  refine zg (decide_eq_false (by omega)) ?_
  have:decide (a.1<b.1)=decide (zrJ [] a b<0):=decide_eq_decide.2 (by
   show a.1<b.1↔zab a.1 b.1<0
   unfold zab;repeat' split
   all_goals omega)
  rw[this]
 | q::r,f,i,hd,hi,hf=>by
  obtain⟨f,rfl⟩:∃ k,f=k+1:=⟨f-1,by omega⟩
  obtain⟨hg,hd2,hlt⟩:=yF hd (((0:Int),(([]:List UInt8),false)):Elt zM)
  rw[List.length_cons]at hi hf
  unfold maxLen at hl
  rw[zkw,Int.toNat_natCast,hg]
  refine zi (decide_eq_true (by omega)) (zd ⟨by omega,by omega⟩ (zd hok ?_))
  show zme F f o (i:Int) (zjT q a b) a.1 a.2.1 a.2.2.1 a.2.2.2.1 a.2.2.2.2.1 a.2.2.2.2.2.1 a.2.2.2.2.2.2.1 a.2.2.2.2.2.2.2 b.1 b.2.1 b.2.2.1 b.2.2.2.1 b.2.2.2.2.1 b.2.2.2.2.2.1 b.2.2.2.2.2.2.1 b.2.2.2.2.2.2.2=_
  rw[zwi,zrJ]
  by_cases hc:zjT q a b≠0
  .rw [if_pos hc];exact zi (bne_iff_ne.2 hc) rfl
  .rw [if_neg hc]
   refine zg (bne_eq_false_iff_eq.2 (Decidable.not_not.1 hc)) (zd (by unfold zh;omega) ?_)
   rw[show((i:Int)+1)=((i+1:Nat):Int) by omega]
   exact zmq F o a b hok (by unfold maxLen;omega) r f (i+1) hd2 (by omega) (by omega)
def zlj:List AV->Option (AV×Option Prop)
 | [.agg [.p (.int .i64 id),.p (.int .i64 th),.p (.str x),.p (.int .i64 at_),.p ke,.p me,.p (.int .i64 mo),.p (.int .i64 bo)],.agg [.p (.int .i64 id2),.p (.int .i64 th2),.p (.str x2),.p (.int .i64 at2),.p ke2,.p me2,.p (.int .i64 mo2),.p (.int .i64 bo2)],.p o]=>
  match zA .str ke,zA mbC me,zA .str ke2,zA mbC me2,zA zM o with
  | some ke',some me',some ke2',some me2',some o=>some (.p (.bool (decide (zrJ o (id,th,x,at_,ke',me',mo,bo) (id2,th2,x2,at2,ke2',me2',mo2,bo2)<0))),some (zGL (id,th,x,at_,ke',me',mo,bo) (id2,th2,x2,at2,ke2',me2',mo2,bo2)))
  | _,_,_,_,_=>none
 | _=>none
theorem zFu:zn Tryz.prog 32 zlj:=by
 intro zs r ok he hok
 unfold zlj at he
 split at he
 .rename_i id th x at_ ke me mo bo id2 th2 x2 at2 ke2 me2 mo2 bo2 o'
  split at he
  .rename_i ke' me' ke2' me2' o h1 h2 h3 h4 h5
   cases he
   exact⟨by kernel_rfl,FnP.lq (ys:=[.agg [.p (.int .i64 id),.p (.int .i64 th),.p (.str x),.p (.int .i64 at_),.p (.list (wid .str) (.dat .str ke')),.p (.list (wid mbC) (.dat mbC me')),.p (.int .i64 mo),.p (.int .i64 bo)],.agg [.p (.int .i64 id2),.p (.int .i64 th2),.p (.str x2),.p (.int .i64 at2),.p (.list (wid .str) (.dat .str ke2')),.p (.list (wid mbC) (.dat mbC me2')),.p (.int .i64 mo2),.p (.int .i64 bo2)],.p (.list 3 (.dat zM o))])
    ⟨zd2 h1 h2,zd2 h3 h4,Lq.list (a:=zM) h5,trivial⟩ (zGd (o.length+1) id th x at_ ke' me' mo bo id2 th2 x2 at2 ke2' me2' mo2 bo2 o _ fun⟨M,vs,hv⟩=>by
     cases hv with|cons _ hv=>
     cases hv with|cons _ hv=>
     cases hv with|cons h1 _=>
     rw[zBT]
     exact zmq (o.length+1) o (id,th,x,at_,ke',me',mo,bo) (id2,th2,x2,at2,ke2',me2',mo2,bo2) hok (znQ (a:=zM) h1.p_inv) o _ 0 rfl (by simp) (by omega))⟩
  .cases he
 .cases he
end Go.Proofs.YtampckbjinodgaaGreatDoor
