/-
  Lifted functions, and facts about them.
-/
import Derived.Test.YtampckbjinodgaaGreatDoorRows
import Derived.Test.YtampckbjinodgaaGreatDoorC01
import Derived.Test.YtampckbjinodgaaGreatDoorAmC
import Derived.Test.YtampckbjinodgaaGreatDoorC15
import Derived.Test.YtampckbjinodgaaGreatDoorC12
import Derived.Lib.Bytealg
import Derived.Test.YtampckbjinodgaaGreatDoorC08
set_option linter.unusedVariables false
noncomputable section
namespace Go.Proofs.YtampckbjinodgaaGreatDoor
open Go Go.Am
theorem zpz(sep:List UInt8):∀ (l:List (List UInt8)) (x:List UInt8),yJ sep (l++[x])=(if l=[] then[] else yJ sep l++sep)++x
 | [],x=>by simp[yJ]
 | y::l,x=>by simp[yJ,List.flatMap_append,List.append_assoc]
abbrev zfo(ws:List (List UInt8))(an:List UInt8)(out:List yl):Prop:=zav ws+ws.length<=80000/\an.length<=80000/\out.length<=80000
abbrev gtO(W O:Nat)(ws:List (List UInt8))(an:List UInt8)(hs:Bool)(out:List yl):List (Nat×AObj):=
 [(70000,.cells [.arr W,.p (.str an),.p (.bool hs),.arr O]),(W,.larr 9 false 1 (.dat .str ws)),(O,.larr 93 false 3 (.dat zbZ out))]
def ziR:Code:=yw Tryz.f150
def zfz:=mkG [(125,zi7)] [] 102 [70000] [([0,1,0,1],⟨[0,2,3,4],[⟨.fix 70000,70000,.cells []⟩,⟨.cell 70000 0,70001000,(.larr 9 false 1 (.dat .str ([]:List (List UInt8))))⟩,⟨.cell 70000 3,70001003,(.larr 93 false 3 (.dat (.pair .str (.pair .str .str)) ([]:List (List UInt8×List UInt8×List UInt8))))⟩]⟩),([1,0,0,1,0,0,1,0,1],⟨[0,2,3,4],[⟨.fix 70000,70000,.cells []⟩,⟨.cell 70000 0,70001000,(.larr 9 false 1 (.dat .str ([]:List (List UInt8))))⟩,⟨.cell 70000 3,70001003,(.larr 93 false 3 (.dat (.pair .str (.pair .str .str)) ([]:List (List UInt8×List UInt8×List UInt8))))⟩]⟩),([1,1,1,1],⟨[0,3,5],[⟨.slot 5,5,.cells []⟩,⟨.fix 70000,70000,.cells []⟩,⟨.cell 70000 0,70001000,(.larr 9 false 1 (.dat .str ([]:List (List UInt8))))⟩,⟨.cell 70000 3,70001003,(.larr 93 false 3 (.dat (.pair .str (.pair .str .str)) ([]:List (List UInt8×List UInt8×List UInt8))))⟩]⟩),([0,1,0,1,1,1,1,1],⟨[0,3,5,6,7],[⟨.slot 5,5,.cells []⟩,⟨.fix 70000,70000,.cells []⟩,⟨.cell 70000 0,70001000,(.larr 9 false 1 (.dat .str ([]:List (List UInt8))))⟩,⟨.cell 70000 3,70001003,(.larr 93 false 3 (.dat (.pair .str (.pair .str .str)) ([]:List (List UInt8×List UInt8×List UInt8))))⟩]⟩),([1,1,0,0,1,0,1,1,1,1,1],⟨[0,3,5,6,7],[⟨.slot 5,5,.cells []⟩,⟨.fix 70000,70000,.cells []⟩,⟨.cell 70000 0,70001000,(.larr 9 false 1 (.dat .str ([]:List (List UInt8))))⟩,⟨.cell 70000 3,70001003,(.larr 93 false 3 (.dat (.pair .str (.pair .str .str)) ([]:List (List UInt8×List UInt8×List UInt8))))⟩]⟩),([1,1,1,1,1,1,1,1],⟨[0,5],[⟨.slot 5,5,.cells []⟩,⟨.fix 70000,70000,.cells []⟩,⟨.cell 70000 0,70001000,(.larr 9 false 1 (.dat .str ([]:List (List UInt8))))⟩,⟨.cell 70000 3,70001003,(.larr 93 false 3 (.dat (.pair .str (.pair .str .str)) ([]:List (List UInt8×List UInt8×List UInt8))))⟩]⟩),([1,1,1,1,1,1,1,1,1],⟨[0],[⟨.fix 70000,70000,.cells []⟩,⟨.cell 70000 0,70001000,(.larr 9 false 1 (.dat .str ([]:List (List UInt8))))⟩,⟨.cell 70000 3,70001003,(.larr 93 false 3 (.dat (.pair .str (.pair .str .str)) ([]:List (List UInt8×List UInt8×List UInt8))))⟩]⟩)] []
def ziJ:K:=kR Tryz.prog [70000] ⟨[],[⟨.fix 70000,70000,.cells []⟩,⟨.cell 70000 0,70001000,(.larr 9 false 1 (.dat .str ([]:List (List UInt8))))⟩,⟨.cell 70000 3,70001003,(.larr 93 false 3 (.dat (.pair .str (.pair .str .str)) ([]:List (List UInt8×List UInt8×List UInt8))))⟩]⟩ [70000,70001000,70001003] Tryz.f150.results.toList
def zkW(F f1:Nat)(vs1 vs2:List UInt8)(vi3:Int)(an:List UInt8)(hs:Bool)(ws:List (List UInt8))(out:List (List UInt8×List UInt8×List UInt8)):=zcI zfz ziR ziJ F [] [1,0,1,0] f1 [(0,.ref 70000 0),(2,pS vs1),(3,pS vs2),(4,pI vi3)] [(70000,.cells [.arr 70001000,pS an,pB hs,.arr 70001003]),(70001000,.larr 9 false 1 (.dat .str ws)),(70001003,.larr 93 false 3 (.dat (.pair .str (.pair .str .str)) out))]
def zkV(F f1:Nat)(vs4 vs2:List UInt8)(vi3:Int)(an:List UInt8)(hs:Bool)(ws:List (List UInt8))(out:List (List UInt8×List UInt8×List UInt8)):=zcv zfz ziR ziJ F [f1] [1,0,1,0,0,1,0,0,1] [(0,.ref 70000 0),(2,pS vs4),(3,pS vs2),(4,pI vi3)] [(70000,.cells [.arr 70001000,pS an,pB hs,.arr 70001003]),(70001000,.larr 9 false 1 (.dat .str ws)),(70001003,.larr 93 false 3 (.dat (.pair .str (.pair .str .str)) out))]
def zri(F:Nat)(vs5 vs6 vs7 vs8 vs9:List UInt8)(vc10:Bool)(vl11:List (List UInt8))(vl12:List (List UInt8×List UInt8×List UInt8)):=zcv zfz ziR ziJ F [] [1,1,1,1] [(0,.ref 70000 0),(3,pS vs5),(5,.ref 5 0)] [(5,.cells [pS vs6,pS vs7,pS vs8]),(70000,.cells [.arr 70001000,pS vs9,pB vc10,.arr 70001003]),(70001000,.larr 9 false 1 (.dat .str vl11)),(70001003,.larr 93 false 3 (.dat (.pair .str (.pair .str .str)) vl12))]
def zkU(F f2:Nat)(vs5:List UInt8)(vi13 vi14:Int)(vs6 vs7 vs8 vs9:List UInt8)(vc10:Bool)(vl11:List (List UInt8))(vl12:List (List UInt8×List UInt8×List UInt8)):=zcI zfz ziR ziJ F [] [1,1,1,1,1,0,1,0] f2 [(0,.ref 70000 0),(3,pS vs5),(5,.ref 5 0),(6,pI vi13),(7,pI vi14)] [(5,.cells [pS vs6,pS vs7,pS vs8]),(70000,.cells [.arr 70001000,pS vs9,pB vc10,.arr 70001003]),(70001000,.larr 9 false 1 (.dat .str vl11)),(70001003,.larr 93 false 3 (.dat (.pair .str (.pair .str .str)) vl12))]
def zkT(F f2:Nat)(vs5:List UInt8)(vi15 vi14:Int)(vs6 vs7 vs8 vs9:List UInt8)(vc10:Bool)(vl11:List (List UInt8))(vl12:List (List UInt8×List UInt8×List UInt8)):=zcv zfz ziR ziJ F [f2] [1,1,1,1,1,0,1,0,0,1,1] [(0,.ref 70000 0),(3,pS vs5),(5,.ref 5 0),(6,pI vi15),(7,pI vi14)] [(5,.cells [pS vs6,pS vs7,pS vs8]),(70000,.cells [.arr 70001000,pS vs9,pB vc10,.arr 70001003]),(70001000,.larr 9 false 1 (.dat .str vl11)),(70001003,.larr 93 false 3 (.dat (.pair .str (.pair .str .str)) vl12))]
def zkS(F:Nat)(vs16 vs17 vs18 vs19:List UInt8)(vc20:Bool)(vl21:List (List UInt8))(vl22:List (List UInt8×List UInt8×List UInt8)):=zcv zfz ziR ziJ F [] [1,1,1,1,1,1,1,1] [(0,.ref 70000 0),(5,.ref 5 0)] [(5,.cells [pS vs16,pS vs17,pS vs18]),(70000,.cells [.arr 70001000,pS vs19,pB vc20,.arr 70001003]),(70001000,.larr 9 false 1 (.dat .str vl21)),(70001003,.larr 93 false 3 (.dat (.pair .str (.pair .str .str)) vl22))]
def zrh(F:Nat)(vs23:List UInt8)(vc24:Bool)(vl25:List (List UInt8))(vl26:List (List UInt8×List UInt8×List UInt8)):=zcv zfz ziR ziJ F [] [1,1,1,1,1,1,1,1,1] [(0,.ref 70000 0)] [(70000,.cells [.arr 70001000,pS vs23,pB vc24,.arr 70001003]),(70001000,.larr 9 false 1 (.dat .str vl25)),(70001003,.larr 93 false 3 (.dat (.pair .str (.pair .str .str)) vl26))]
def zCg(F:Nat)(ws:List (List UInt8))(an:List UInt8)(hs:Bool)(out:List (List UInt8×List UInt8×List UInt8)):=zam zfz Tryz.f150 ⟨[],[⟨.fix 70000,70000,.cells []⟩,⟨.cell 70000 0,70001000,(.larr 9 false 1 (.dat .str ([]:List (List UInt8))))⟩,⟨.cell 70000 3,70001003,(.larr 93 false 3 (.dat (.pair .str (.pair .str .str)) ([]:List (List UInt8×List UInt8×List UInt8))))⟩]⟩ [70000,70001000,70001003] F [.ref 70000 0] [(70000,.cells [.arr 70001,pS an,pB hs,.arr 70002]),(70001,.larr 9 false 1 (.dat .str ws)),(70002,.larr 93 false 3 (.dat (.pair .str (.pair .str .str)) out))]
theorem znk(F f1 vs1 vs2 vi3 an hs ws out):letI A:=([]:List UInt8);letI B:=([32]:List UInt8);zkW F (f1+1) vs1 vs2 vi3 an hs ws out=cond (decide (vi3<(ws.length:Int))) (cond (decide (vi3>0)) (ze (zaW (vs1.length+B.length)) (zkV F f1 (vs1++B) vs2 vi3 an hs ws out)) (zkV F f1 vs1 vs2 vi3 an hs ws out)) (cond hs (ze (vs1.length<=100000) (zri F an (zcm vs1) A A an hs ws out)) (zri F vs2 A A A an hs ws out)):=by kernel_rfl
theorem zzl(F f1 vs4 vs2 vi3 an hs ws out):letI A:=ws.getD vi3.toNat [];letI B:=0<=vi3/\vi3<(ws.length:Int);letI C:=vi3.toNat<ws.length;zkV F f1 vs4 vs2 vi3 an hs ws out=ze B (ze C (ze (zaW (vs4.length+A.length)) (ze B (ze C (ze (zaW (vs2.length+A.length)) (ze (zh (vi3+1)) (zkW F f1 (vs4++A) (vs2++A) (vi3+1) an hs ws out))))))):=by kernel_rfl
theorem znj(F vs5 vs6 vs7 vs8 vs9 vc10 vl11 vl12):zri F vs5 vs6 vs7 vs8 vs9 vc10 vl11 vl12=zkU F F vs5 (-1:Int) 0 vs6 vs7 vs8 vs9 vc10 vl11 vl12:=by kernel_rfl
theorem zni(F f2 vs5 vi13 vi14 vs6 vs7 vs8 vs9 vc10 vl11 vl12):letI A:=(vs5.length:Int);letI B:=vi13+1;zkU F (f2+1) vs5 vi13 vi14 vs6 vs7 vs8 vs9 vc10 vl11 vl12=cond (decide (vi14<A)) (ze (0<=vi14/\vi14<A) (cond (((vs5.getD vi14.toNat 0).toNat:Int)==64) (zkT F f2 vs5 vi14 vi14 vs6 vs7 vs8 vs9 vc10 vl11 vl12) (zkT F f2 vs5 vi13 vi14 vs6 vs7 vs8 vs9 vc10 vl11 vl12))) (cond (decide (vi13>=0)) (ze (0<=vi13/\vi13<=A) (ze (zh B) (ze (0<=B/\B<=A) (zkS F vs6 (vs5.take vi13.toNat) (vs5.drop B.toNat) vs9 vc10 vl11 vl12)))) (zkS F vs6 vs5 vs8 vs9 vc10 vl11 vl12)):=by kernel_rfl
theorem zzk(F f2 vs5 vi15 vi14 vs6 vs7 vs8 vs9 vc10 vl11 vl12):zkT F f2 vs5 vi15 vi14 vs6 vs7 vs8 vs9 vc10 vl11 vl12=ze (zh (vi14+1)) (zkU F f2 vs5 vi15 (vi14+1) vs6 vs7 vs8 vs9 vc10 vl11 vl12):=by kernel_rfl
theorem zzj(F vs16 vs17 vs18 vs19 vc20 vl21 vl22):letI A:=([]:List UInt8);zkS F vs16 vs17 vs18 vs19 vc20 vl21 vl22=cond ((vs17 != A)||(vs18 != A)) (ze ((vl22.length+[(vs16,(vs17,vs18))].length)*48<=140737488355328) (zrh F vs19 vc20 vl21 (vl22++[(vs16,(vs17,vs18))]))) (zrh F vs19 vc20 vl21 vl22):=letI A:=vs17 != ([]:List UInt8);Eq.trans (by kernel_rfl) (nI ((!A)=true) (nI ((!A)=true) (nN A rfl)))
theorem znh(F vs23 vc24 vl25 vl26):zrh F vs23 vc24 vl25 vl26=some (.tup [],[(70000,.cells [.arr 70001000,.p (.str ([]:List UInt8)),.p (.bool false),.arr 70001003]),(70001000,.larr 9 false 1 (.dat .str ([]:List (List UInt8)))),(70001003,.larr 93 false 3 (.dat (.pair .str (.pair .str .str)) vl26))]):=by kernel_rfl
theorem zHr(F ws an hs out):letI A:=([]:List UInt8);zCg F ws an hs out=zkW F F A A 0 an hs ws out:=by kernel_rfl
theorem zKg(F ws an hs out r os):IsR 150 (zCg F ws an hs out) [.ref 70000 0] [(70000,.cells [.arr 70001,.p (.str an),.p (.bool hs),.arr 70002]),(70001,.larr 9 false 1 (.dat .str ws)),(70002,.larr 93 false 3 (.dat (.pair .str (.pair .str .str)) out))] [70000] r os:=zb9 zfz ⟨[],[⟨.fix 70000,70000,.cells []⟩,⟨.cell 70000 0,70001000,(.larr 9 false 1 (.dat .str ([]:List (List UInt8))))⟩,⟨.cell 70000 3,70001003,(.larr 93 false 3 (.dat (.pair .str (.pair .str .str)) ([]:List (List UInt8×List UInt8×List UInt8))))⟩]⟩ [70000,70001000,70001003] rfl ⟨zw9.any,trivial⟩
theorem gt_6(F:Nat)(q:yl)(an:List UInt8)(hs:Bool)(ws:List (List UInt8))(out:List yl)(ho:out.length<=80000):
 zkS F q.1 q.2.1 q.2.2 an hs ws out=some (.tup [],gtO 70001000 70001003 [] [] false (if q.2.1≠[]\/q.2.2≠[] then out++[q] else out)):=by
 rw[zzj,znh,znh]
 by_cases h:q.2.1≠[]\/q.2.2≠[]
 .rw [if_pos h]
  refine zi ?_ (zd (by simp;omega) rfl)
  rw[Bool.or_eq_true,bne_iff_ne,bne_iff_ne];exact h
 .rw [if_neg h]
  refine zg ?_ rfl
  rw[<-Bool.not_eq_true,Bool.or_eq_true,bne_iff_ne,bne_iff_ne];exact h
theorem gt_4(F:Nat)(s nm an:List UInt8)(hs:Bool)(ws:List (List UInt8))(out:List yl)(hS:s.length<=1000000)(ho:out.length<=80000):∀ (n i f:Nat),i+n=s.length->n<f->
 zkU F f s (zaX s 64 i) (i:Int) nm [] [] an hs ws out=some (.tup [],gtO 70001000 70001003 [] [] false (if(zaJ s).1≠[]\/(zaJ s).2≠[] then out++[(nm,((zaJ s).1,(zaJ s).2))] else out)):=by
 intro n
 induction n with
 | zero=>
  intro i f hi hf
  obtain⟨f,rfl⟩:∃ k,f=k+1:=⟨f-1,by omega⟩
  have hi:i=s.length:=by omega
  subst hi
  have hb:=zpw s 64 s.length
  rw[zni]
  refine zg (decide_eq_false (by omega)) ?_
  unfold zaJ
  by_cases hn:zaX s 64 s.length<0
  .rw [if_pos hn]
   exact zg (decide_eq_false (by omega)) (gt_6 F (nm,(s,[])) an hs ws out ho)
  .rw [if_neg hn]
   exact zi (decide_eq_true (by omega)) (zd ⟨by omega,by omega⟩ (zd (by unfold zh;omega) (zd ⟨by omega,by omega⟩ (gt_6 F (nm,(s.take (zaX s 64 s.length).toNat,s.drop (zaX s 64 s.length+1).toNat)) an hs ws out ho))))
 | succ n ih=>
  intro i f hi hf
  obtain⟨f,rfl⟩:∃ k,f=k+1:=⟨f-1,by omega⟩
  rw[zni,Int.toNat_natCast]
  refine zi (decide_eq_true (by omega)) (zd ⟨by omega,by omega⟩ ?_)
  have hnext:∀ k,zaX s 64 (i+1)=k->zkT F f s k (i:Int) nm [] [] an hs ws out=some (.tup [],gtO 70001000 70001003 [] [] false (if(zaJ s).1≠[]\/(zaJ s).2≠[] then out++[(nm,((zaJ s).1,(zaJ s).2))] else out)):=fun k hk=>by
   rw[zzk]
   refine zd (by unfold zh;omega) ?_
   rw[show((i:Int)+1)=((i+1:Nat):Int) by omega,<-hk]
   exact ih (i+1) f (by omega) (by omega)
  by_cases hc:(((s.getD i 0).toNat:Nat):Int)=64
  .exact zi (beq_iff_eq.2 hc) (hnext _ (by rw[zaX,if_pos hc]))
  .exact zg (beq_eq_false_iff_ne.2 hc) (hnext _ (by rw[zaX,if_neg hc]))
theorem gt_1(F:Nat)(an:List UInt8)(hs:Bool)(ws:List (List UInt8))(out:List yl)(h:zfo ws an out)(hF:100000<F):∀ (r:List (List UInt8)) (i f:Nat),ws.drop i=r->i+r.length=ws.length->r.length<f->
 zkW F f (yJ [32] (ws.take i)) (yJ [] (ws.take i)) (i:Int) an hs ws out=some (.tup [],gtO 70001000 70001003 [] [] false (zbG ws an hs out))
 | [],i,f,hd,hi,hf=>by
  obtain⟨f,rfl⟩:∃ k,f=k+1:=⟨f-1,by omega⟩
  have hi:i=ws.length:=by simpa using hi
  subst hi
  have hj:=zlQ ws 80000 h.1
  rw[znk,List.take_length,znj,znj]
  refine zg (decide_eq_false (by omega)) ?_
  cases hs with
  | true=>exact zi rfl (zd (by omega) (gt_4 F an (zcm (yJ [32] ws)) an true ws out (by have:=h.2.1;omega) h.2.2 an.length 0 F (by omega) (by have:=h.2.1;omega)))
  | false=>exact zg rfl (gt_4 F (yJ [] ws) [] an false ws out (by omega) h.2.2 (yJ [] ws).length 0 F (by omega) (by omega))
 | x::r,i,f,hd,hi,hf=>by
  obtain⟨f,rfl⟩:∃ k,f=k+1:=⟨f-1,by omega⟩
  obtain⟨hg,hd2,hlt⟩:=yF hd ([]:List UInt8)
  rw[List.length_cons]at hi hf
  have htk:ws.take (i+1)=ws.take i++[x]:=by
   rw[List.take_add_one,List.getElem?_eq_getElem hlt]
   rw[List.getD_eq_getElem?_getD,List.getElem?_eq_getElem hlt]at hg
   have hg:ws[i]=x:=hg
   rw[hg];rfl
  have hle:zav (ws.take i)+zav r+x.length=zav ws:=by
   have:=congrArg zav (show ws.take i++(x::r)=ws by rw[<-hd];exact List.take_append_drop ..)
   rw[<-this];simp[zav];omega
  have hj:=zlQ (ws.take i) (zav (ws.take i)+(ws.take i).length) (Nat.le_refl _)
  have hlen:(ws.take i).length=i:=by rw[List.length_take];omega
  have h1:=h.1
  have h2:∀ (v:List UInt8),v=(if ws.take i=[] then[] else yJ [32] (ws.take i)++[32])->v.length<=200000->zkV F f v (yJ [] (ws.take i)) (i:Int) an hs ws out=some (.tup [],gtO 70001000 70001003 [] [] false (zbG ws an hs out)):=fun v hv hvl=>by
   rw[zzl,Int.toNat_natCast,hg]
   refine zd ⟨by omega,by omega⟩ (zd hlt (zd (by unfold zaW;omega) (zd ⟨by omega,by omega⟩ (zd hlt (zd (by unfold zaW;omega) (zd (by unfold zh;omega) ?_))))))
   have e1:v++x=yJ [32] (ws.take (i+1)):=by rw[htk,zpz,hv]
   have e2:yJ [] (ws.take i)++x=yJ [] (ws.take (i+1)):=by
    rw[htk,zpz]
    by_cases h0:ws.take i=[]
    .rw [if_pos h0,h0];rfl
    .rw [if_neg h0,List.append_nil]
   rw[e1,e2,show((i:Int)+1)=((i+1:Nat):Int) by omega]
   exact gt_1 F an hs ws out h hF r (i+1) f hd2 (by omega) (by omega)
  rw[znk]
  refine zi (decide_eq_true (by omega)) ?_
  by_cases h0:i=0
  .subst h0
   exact zg (decide_eq_false (by omega)) (h2 _ (by simp[yJ]) (by simp[yJ]))
  .have hne:ws.take i≠[]:=fun e=>by rw[e]at hlen;simp at hlen;omega
   refine zi (decide_eq_true (by omega)) (zd (by unfold zaW;simp;omega) (h2 _ (by rw[if_neg hne]) (by simp;omega)))
theorem zJL(ws:List (List UInt8))(an:List UInt8)(hs:Bool)(out:List yl)(h:zfo ws an out):zCg 100001 ws an hs out=some (.tup [],gtO 70001000 70001003 [] [] false (zbG ws an hs out)):=by
 rw[zHr]
 exact gt_1 100001 an hs ws out h (by omega) ws 0 100001 rfl (by simp) (by have:=h.1;omega)
def zoQ:yM:=⟨[false],fun args ib=>match args,ib with
 | [.ref 70000 0],[(70000,.cells [.arr 70001,.p (.str an),.p (.bool hs),.arr 70002]),(70001,.larr 9 false 1 R),(70002,.larr 93 false 3 Q)]=>
  match zA .str (.list 1 R),zA zbZ (.list 3 Q)with
  | some ws,some out=>some (([70000],.tup []),(gtO 70001000 70001003 [] [] false (zbG ws an hs out),some (zfo ws an out)))
  | _,_=>none
 | _,_=>none⟩
theorem zI6:zS Tryz.prog 150 zoQ:=by
 intro args ib kept r zZ ok h hok
 simp only[zoQ]at h
 split at h
 .split at h
  .rename_i ws out hw ho
   obtain⟨rfl,_⟩:=yB hw
   obtain⟨rfl,_⟩:=yB ho
   cases h
   exact⟨by kernel_rfl,zKg 100001 _ _ _ _ _ _ fun _=>zJL _ _ _ _ hok⟩
  .cases h
 .cases h
def zbl:=mkG [(24,zeD),(148,zf7),(149,ziv),(151,zlo)] [(150,zoQ)] 171 [] [([0,1,0,1,1],⟨[0,3,4],[⟨.slot 3,3,.cells []⟩,⟨.cell 3 0,4000,(.larr 9 false 1 (.dat .str ([]:List (List UInt8))))⟩,⟨.cell 3 3,4003,(.larr 93 false 3 (.dat (.pair .str (.pair .str .str)) ([]:List (List UInt8×List UInt8×List UInt8))))⟩]⟩),([1,1,0,1,1,1,1,1,0,1,0,1,0,0,1,0,1,1],⟨[0,3,4,8],[⟨.slot 3,3,.cells []⟩,⟨.cell 3 0,4000,(.larr 9 false 1 (.dat .str ([]:List (List UInt8))))⟩,⟨.cell 3 3,4003,(.larr 93 false 3 (.dat (.pair .str (.pair .str .str)) ([]:List (List UInt8×List UInt8×List UInt8))))⟩]⟩),([0,1,0,1,1,1,0,1,1,1,1,1,0,1,0,1,0,0,1,0,1,1],⟨[0,3,8,9,10],[⟨.slot 3,3,.cells []⟩,⟨.slot 9,9,(.barr 5 false [])⟩,⟨.cell 3 0,4000,(.larr 9 false 1 (.dat .str ([]:List (List UInt8))))⟩,⟨.cell 3 3,4003,(.larr 93 false 3 (.dat (.pair .str (.pair .str .str)) ([]:List (List UInt8×List UInt8×List UInt8))))⟩]⟩),([1,0,0,1,0,0,1,0,1,1,1,0,1,1,1,1,1,0,1,0,1,0,0,1,0,1,1],⟨[0,3,8,9,10,103],[⟨.slot 3,3,.cells []⟩,⟨.slot 9,9,(.barr 5 false [])⟩,⟨.cell 3 0,4000,(.larr 9 false 1 (.dat .str ([]:List (List UInt8))))⟩,⟨.cell 3 3,4003,(.larr 93 false 3 (.dat (.pair .str (.pair .str .str)) ([]:List (List UInt8×List UInt8×List UInt8))))⟩]⟩),([1,1,0,0,1,0,1,1,1,0,1,1,1,1,1,0,1,0,1,0,0,1,0,1,1],⟨[0,3,8,9,10],[⟨.slot 3,3,.cells []⟩,⟨.slot 9,9,(.barr 5 false [])⟩,⟨.cell 3 0,4000,(.larr 9 false 1 (.dat .str ([]:List (List UInt8))))⟩,⟨.cell 3 3,4003,(.larr 93 false 3 (.dat (.pair .str (.pair .str .str)) ([]:List (List UInt8×List UInt8×List UInt8))))⟩]⟩),([1,1,1,1,1,1,1,1,1,0,1,0,1,0,0,1,0,1,1],⟨[0,3,4,5,137],[⟨.slot 3,3,.cells []⟩,⟨.cell 3 0,4000,(.larr 9 false 1 (.dat .str ([]:List (List UInt8))))⟩,⟨.cell 3 3,4003,(.larr 93 false 3 (.dat (.pair .str (.pair .str .str)) ([]:List (List UInt8×List UInt8×List UInt8))))⟩]⟩),([1,1,1,1,1,1,1,1,1,1,1,0,1,0,1,0,0,1,0,1,1],⟨[0,3,4,148],[⟨.slot 3,3,.cells []⟩,⟨.cell 3 0,4000,(.larr 9 false 1 (.dat .str ([]:List (List UInt8))))⟩,⟨.cell 3 3,4003,(.larr 93 false 3 (.dat (.pair .str (.pair .str .str)) ([]:List (List UInt8×List UInt8×List UInt8))))⟩]⟩),([0,0,1,1,1,1,1,1,1,1,1,1,1,1,1,0,1,0,1,0,0,1,0,1,1],⟨[0,3,4,11],[⟨.slot 3,3,.cells []⟩,⟨.cell 3 0,4000,(.larr 9 false 1 (.dat .str ([]:List (List UInt8))))⟩,⟨.cell 3 3,4003,(.larr 93 false 3 (.dat (.pair .str (.pair .str .str)) ([]:List (List UInt8×List UInt8×List UInt8))))⟩]⟩)] [([0,0,1,1,1,1,1,1,1,1,1,0,1,0,1,0,0,1,0,1,1],[1]),([0,1,1,1],[1])]
def yj(F f1:Nat)(s:List UInt8)(vi1:Int)(vs2:List UInt8)(vc3:Bool)(vl4:List (List UInt8))(vl5:List (List UInt8×List UInt8×List UInt8)):=zH zbl Tryz.f123 F [] [1,1,0,1,0] f1 [(0,pS s),(3,.ref 3 0),(4,pI vi1)] [(3,.cells [.arr 4000,pS vs2,pB vc3,.arr 4003]),(4000,.larr 9 false 1 (.dat .str vl4)),(4003,.larr 93 false 3 (.dat (.pair .str (.pair .str .str)) vl5))]
def zfO(F f1:Nat)(s:List UInt8)(vi1 vi6:Int)(vs2:List UInt8)(vc3:Bool)(vl4:List (List UInt8))(vl5:List (List UInt8×List UInt8×List UInt8)):=zx zbl Tryz.f123 F [f1] [1,1,0,1,0,0,1,0,1,0,1,1,1,1,1,0,1,1] [(0,pS s),(3,.ref 3 0),(4,pI vi1),(8,pI vi6)] [(3,.cells [.arr 4000,pS vs2,pB vc3,.arr 4003]),(4000,.larr 9 false 1 (.dat .str vl4)),(4003,.larr 93 false 3 (.dat (.pair .str (.pair .str .str)) vl5))]
def zfN(F f1 f2:Nat)(s:List UInt8)(vi6 vi7:Int)(vs8:List UInt8)(vc9:Bool)(vb10:List UInt8)(vl11:List (List UInt8))(vl12:List (List UInt8×List UInt8×List UInt8)):=zH zbl Tryz.f123 F [f1] [1,1,0,1,0,0,1,0,1,0,1,1,1,1,1,0,1,1,1,0,1,0] f2 [(0,pS s),(3,.ref 3 0),(8,pI vi6),(9,.arr 9),(10,pI vi7)] [(3,.cells [.arr 4000,pS vs8,pB vc9,.arr 4003]),(9,.barr 5 false vb10),(4000,.larr 9 false 1 (.dat .str vl11)),(4003,.larr 93 false 3 (.dat (.pair .str (.pair .str .str)) vl12))]
def zq4(F f1 f2:Nat)(s:List UInt8)(vi6 vi7:Int)(vc13:Bool)(vs8:List UInt8)(vc9:Bool)(vb10:List UInt8)(vl11:List (List UInt8))(vl12:List (List UInt8×List UInt8×List UInt8)):=zx zbl Tryz.f123 F [f1,f2] [1,1,0,1,0,0,1,0,1,0,1,1,1,1,1,0,1,1,1,0,1,0,0,1,0,0,1] [(0,pS s),(3,.ref 3 0),(8,pI vi6),(9,.arr 9),(10,pI vi7),(103,pB vc13)] [(3,.cells [.arr 4000,pS vs8,pB vc9,.arr 4003]),(9,.barr 5 false vb10),(4000,.larr 9 false 1 (.dat .str vl11)),(4003,.larr 93 false 3 (.dat (.pair .str (.pair .str .str)) vl12))]
def zfM(F f1 f2:Nat)(s:List UInt8)(vi6 vi7:Int)(vs14:List UInt8)(vc15:Bool)(vb16:List UInt8)(vl17:List (List UInt8))(vl18:List (List UInt8×List UInt8×List UInt8)):=zx zbl Tryz.f123 F [f1,f2] [1,1,0,1,0,0,1,0,1,0,1,1,1,1,1,0,1,1,1,0,1,0,0,1,1] [(0,pS s),(3,.ref 3 0),(8,pI vi6),(9,.arr 9),(10,pI vi7)] [(3,.cells [.arr 4000,pS vs14,pB vc15,.arr 4003]),(9,.barr 5 false vb16),(4000,.larr 9 false 1 (.dat .str vl17)),(4003,.larr 93 false 3 (.dat (.pair .str (.pair .str .str)) vl18))]
def zq3(F f1:Nat)(s:List UInt8)(vi1 vi19:Int)(vc20:Bool)(vs2:List UInt8)(vc3:Bool)(vl4:List (List UInt8))(vl5:List (List UInt8×List UInt8×List UInt8)):=zx zbl Tryz.f123 F [f1] [1,1,0,1,0,0,1,0,1,0,1,1,1,1,1,1,1,1,1] [(0,pS s),(3,.ref 3 0),(4,pI vi1),(5,.p (.int .u8 vi19)),(137,pB vc20)] [(3,.cells [.arr 4000,pS vs2,pB vc3,.arr 4003]),(4000,.larr 9 false 1 (.dat .str vl4)),(4003,.larr 93 false 3 (.dat (.pair .str (.pair .str .str)) vl5))]
def zq2(F f1:Nat)(s:List UInt8)(vi1:Int)(vc21:Bool)(vs2:List UInt8)(vc3:Bool)(vl4:List (List UInt8))(vl5:List (List UInt8×List UInt8×List UInt8)):=zx zbl Tryz.f123 F [f1] [1,1,0,1,0,0,1,0,1,0,1,1,1,1,1,1,1,1,1,1,1] [(0,pS s),(3,.ref 3 0),(4,pI vi1),(148,pB vc21)] [(3,.cells [.arr 4000,pS vs2,pB vc3,.arr 4003]),(4000,.larr 9 false 1 (.dat .str vl4)),(4003,.larr 93 false 3 (.dat (.pair .str (.pair .str .str)) vl5))]
def zfL(F f1 f3:Nat)(s:List UInt8)(vi1 vi22:Int)(vs23:List UInt8)(vc24:Bool)(vl25:List (List UInt8))(vl26:List (List UInt8×List UInt8×List UInt8)):=zH zbl Tryz.f123 F [f1] [1,1,0,1,0,0,1,0,1,0,1,1,1,1,1,1,1,1,1,1,1,1,1,0,0] f3 [(0,pS s),(3,.ref 3 0),(4,pI vi1),(11,pI vi22)] [(3,.cells [.arr 4000,pS vs23,pB vc24,.arr 4003]),(4000,.larr 9 false 1 (.dat .str vl25)),(4003,.larr 93 false 3 (.dat (.pair .str (.pair .str .str)) vl26))]
def zqr(F:Nat)(s:List UInt8):=zF zbl Tryz.f123 F [pS s]
theorem zik(F f1 s vi1 vs2 vc3 vl4 vl5):letI A:=((s.getD vi1.toNat 0).toNat:Int);letI B:=vi1+1;letI C:=s.drop B.toNat;letI D:=([62]:List UInt8);letI E:=(s.length:Int);letI H:=zh B;letI I:=zbt s D vi1;yj F (f1+1) s vi1 vs2 vc3 vl4 vl5=cond (decide (vi1<E)) (ze (0<=vi1/\vi1<E) (cond (A==34) (ze H (ze (zlJ s B) (ze ((vl4.length+[(wiF C).1].length)*16<=140737488355328) (yj F f1 s (B+((wiF C).2:Int)) vs2 vc3 (vl4++[(wiF C).1]) vl5)))) (cond (A==40) (ze H (ze (zlJ s B) (yj F f1 s (B+(rmF 1 C:Int)) vs2 vc3 vl4 vl5))) (cond (A==60) (ze (zhf s D vi1) (cond (decide (I<0)) (zfO F f1 s vi1 E vs2 vc3 vl4 vl5) (zfO F f1 s vi1 I vs2 vc3 vl4 vl5))) (cond (A==58) (ze H (yj F f1 s B ([]:List UInt8) false ([]:List (List UInt8)) vl5)) (zq3 F f1 s vi1 A ((A==44)||(A==59)) vs2 vc3 vl4 vl5)))))) (ze (zfo vl4 vs2 vl5) (some (.p (.list 3 (.dat (.pair .str (.pair .str .str)) (zbG vl4 vs2 vc3 vl5))),[]))):=letI A:=((s.getD vi1.toNat 0).toNat:Int)==44;Eq.trans (by kernel_rfl) (zj (zf (zj rfl (zj rfl (zj rfl (zj rfl (nI ((!A)=true) (nN A rfl))))))) rfl)
theorem zr9(F f1 s vi1 vi6 vs2 vc3 vl4 vl5):zfO F f1 s vi1 vi6 vs2 vc3 vl4 vl5=ze (zh (vi1+1)) (zfN F f1 f1 s vi6 (vi1+1) vs2 vc3 [] vl4 vl5):=by kernel_rfl
theorem zij(F f1 f2 s vi6 vi7 vs8 vc9 vb10 vl11 vl12):letI A:=((s.getD vi7.toNat 0).toNat:Int);letI B:=(s.length:Int);letI C:=vi6+1;zfN F f1 (f2+1) s vi6 vi7 vs8 vc9 vb10 vl11 vl12=cond (decide (vi7<vi6)) (ze (0<=vi7/\vi7<B) (ze ((A != 32)=true->0<=vi7/\vi7<B) (zq4 F f1 f2 s vi6 vi7 ((A != 32)&&(A != 9)) vs8 vc9 vb10 vl11 vl12))) (ze (zh C) (yj F f1 s (if B<C then B else C) vb10 true vl11 vl12)):=letI A:=(((s.getD vi7.toNat 0).toNat:Int) != 32)=true;Eq.trans (by kernel_rfl) (zj (zf (nI A (nI A (zf (nI A (nI A rfl)))))) rfl)
theorem zr8(F f1 f2 s vi6 vi7 vc13 vs8 vc9 vb10 vl11 vl12):letI A:=((s.getD vi7.toNat 0).toNat:Int).toNat;zq4 F f1 f2 s vi6 vi7 vc13 vs8 vc9 vb10 vl11 vl12=cond vc13 (ze (0<=vi7/\vi7<(s.length:Int)) (ze ((vb10.length+[UInt8.ofNat A].length)*1<=140737488355328) (zfM F f1 f2 s vi6 vi7 vs8 vc9 (vb10++[UInt8.ofNat A]) vl11 vl12))) (zfM F f1 f2 s vi6 vi7 vs8 vc9 vb10 vl11 vl12):=by kernel_rfl
theorem zr7(F f1 f2 s vi6 vi7 vs14 vc15 vb16 vl17 vl18):zfM F f1 f2 s vi6 vi7 vs14 vc15 vb16 vl17 vl18=ze (zh (vi7+1)) (zfN F f1 f2 s vi6 (vi7+1) vs14 vc15 vb16 vl17 vl18):=by kernel_rfl
theorem zr6(F f1 s vi1 vi19 vc20 vs2 vc3 vl4 vl5):zq3 F f1 s vi1 vi19 vc20 vs2 vc3 vl4 vl5=cond vc20 (ze (zfo vl4 vs2 vl5) (ze (zh (vi1+1)) (yj F f1 s (vi1+1) ([]:List UInt8) false ([]:List (List UInt8)) (zbG vl4 vs2 vc3 vl5)))) (zq2 F f1 s vi1 ((((vi19==32)||(vi19==9))||(vi19==10))||(vi19==13)) vs2 vc3 vl4 vl5):=letI A:=(vi19==32)||(vi19==9);letI B:=A||(vi19==10);Eq.trans (by kernel_rfl) (zj rfl (nI ((!(vi19==32))=true) (nN (vi19==32) (nI ((!A)=true) (nN A (nI ((!B)=true) (nN B rfl)))))))
theorem zr5(F f1 s vi1 vc21 vs2 vc3 vl4 vl5):zq2 F f1 s vi1 vc21 vs2 vc3 vl4 vl5=cond vc21 (ze (zh (vi1+1)) (yj F f1 s (vi1+1) vs2 vc3 vl4 vl5)) (zfL F f1 f1 s vi1 vi1 vs2 vc3 vl4 vl5):=by kernel_rfl
theorem zii(F f1 f3 s vi1 vi22 vs23 vc24 vl25 vl26):letI A:=(s.length:Int);letI B:=(s.take vi22.toNat).drop;letI C:=decide (vi22<A);zfL F f1 (f3+1) s vi1 vi22 vs23 vc24 vl25 vl26=ze (C=true->0<=vi22/\vi22<A) (cond (C&&(!(zsv ((s.getD vi22.toNat 0).toNat:Int)))) (ze (zh (vi22+1)) (zfL F f1 f3 s vi1 (vi22+1) vs23 vc24 vl25 vl26)) (ze (0<=vi1/\vi1<=vi22/\vi22<=A) (ze ((vl25.length+[B vi1.toNat].length)*16<=140737488355328) (yj F f1 s vi22 vs23 vc24 (vl25++[B vi1.toNat]) vl26)))):=letI A:=(decide (vi22<(s.length:Int)))=true;Eq.trans (by kernel_rfl) (nI A (nI A (zf (nI A (nI A (nI A rfl))))))
theorem zyx(F s):zqr F s=yj F F s 0 ([]:List UInt8) false ([]:List (List UInt8)) ([]:List (List UInt8×List UInt8×List UInt8)):=by kernel_rfl
theorem zAY(F s r):IsP 123 (zqr F s) [.p (.str s)] r:=zG zbl rfl ⟨zjq.any,zxe.any,zAt.any,zFA.any,trivial⟩ (hr:=⟨zI6,trivial⟩)
theorem zDh(F f1:Nat)(s an:List UInt8)(hs:Bool)(ws:List (List UInt8))(out:List yl)(b:Nat)(hS:s.length<=1000000)(hw:ws.length<=1000000):∀ (r:List UInt8) (i f3:Nat),s.drop i=r->b<=i->i+r.length=s.length->r.length<f3->
 zfL F f1 f3 s (b:Int) (i:Int) an hs ws out=yj F f1 s ((i+(r.takeWhile yS).length:Nat):Int) an hs (ws++[(s.drop b).take (i+(r.takeWhile yS).length-b)]) out
 | [],i,f3,hd,hb,hl,hf=>by
  obtain⟨f3,rfl⟩:∃ k,f3=k+1:=⟨f3-1,by omega⟩
  have hl:i=s.length:=by simpa using hl
  have hdf:decide ((i:Int)<(s.length:Int))=false:=decide_eq_false (by omega)
  rw[zii,hdf]
  refine zd (fun h=>by cases h) (zg rfl (zd ⟨by omega,by omega,by omega⟩ (zd (by simp;omega) ?_)))
  simp only[List.takeWhile_nil,List.length_nil,Nat.add_zero,Int.toNat_natCast,List.drop_take]
 | c::r,i,f3,hd,hb,hl,hf=>by
  obtain⟨f3,rfl⟩:∃ k,f3=k+1:=⟨f3-1,by omega⟩
  obtain⟨hg,hd2,hi⟩:=zap hd
  rw[List.length_cons]at hl hf
  have hdt:decide ((i:Int)<(s.length:Int))=true:=decide_eq_true (by omega)
  rw[zii,hdt,Int.toNat_natCast,hg,zNC,Bool.not_not]
  refine zd (fun _=>⟨by omega,by omega⟩) ?_
  cases hc:yS c with
  | true=>
   refine zi rfl (zd (by unfold zh;omega) ?_)
   rw[show((i:Int)+1)=((i+1:Nat):Int) by omega,zDh F f1 s an hs ws out b hS hw r (i+1) f3 hd2 (by omega) (by omega) (by omega)]
   rw[List.takeWhile_cons_of_pos hc,List.length_cons,show i+((r.takeWhile yS).length+1)=i+1+(r.takeWhile yS).length by omega]
  | false=>
   refine zg rfl (zd ⟨by omega,by omega,by omega⟩ (zd (by simp;omega) ?_))
   rw[List.takeWhile_cons_of_neg (by simp[hc])]
   simp only[List.length_nil,Nat.add_zero,Int.toNat_natCast,List.drop_take]
theorem zRF(F f1:Nat)(s an:List UInt8)(hs:Bool)(ws:List (List UInt8))(out:List yl)(k:Nat)(hS:s.length<=1000000)(hk:k<=s.length):∀ (n i f2:Nat) (b:List UInt8),i+n=k->n<f2->b.length<=i->
 zfN F f1 f2 s (k:Int) (i:Int) an hs b ws out=yj F f1 s (if(s.length:Int)<((k:Int)+(1:Int)) then(s.length:Int) else((k:Int)+(1:Int))) (b++zbC ((s.drop i).take n)) true ws out:=by
 intro n
 induction n with
 | zero=>
  intro i f2 b hi hf hb
  obtain⟨f2,rfl⟩:∃ q,f2=q+1:=⟨f2-1,by omega⟩
  rw[zij]
  refine zg (decide_eq_false (by omega)) (zd (by unfold zh;omega) ?_)
  rw[List.take_zero,show zbC []=[] from rfl,List.append_nil]
 | succ n ih=>
  intro i f2 b hi hf hb
  obtain⟨f2,rfl⟩:∃ q,f2=q+1:=⟨f2-1,by omega⟩
  have hlt:i<s.length:=by omega
  obtain⟨c,hc⟩:∃ c,s.drop i=c::s.drop (i+1):=⟨s[i],List.drop_eq_getElem_cons hlt⟩
  obtain⟨hg,hd2,_⟩:=zap hc
  have e1:(((c.toNat:Nat):Int) != (32:Int))=!decide (c=32):=by rw[bne,ym c 32 32 32 rfl rfl]
  have e2:(((c.toNat:Nat):Int) != (9:Int))=!decide (c=9):=by rw[bne,ym c 9 9 9 rfl rfl]
  have e5:∀ b':List UInt8,b'.length<=i+1->zfM F f1 f2 s (k:Int) (i:Int) an hs b' ws out=yj F f1 s (if(s.length:Int)<((k:Int)+(1:Int)) then(s.length:Int) else((k:Int)+(1:Int))) (b'++zbC ((s.drop (i+1)).take n)) true ws out:=fun b' hb'=>by
   rw[zr7]
   refine zd (by unfold zh;omega) ?_
   rw[show((i:Int)+1)=((i+1:Nat):Int) by omega]
   exact ih (i+1) f2 b' (by omega) (by omega) hb'
  rw[zij,Int.toNat_natCast,hg,e1,e2]
  refine zi (decide_eq_true (by omega)) (zd ⟨by omega,by omega⟩ (zd (fun _=>⟨by omega,by omega⟩) ?_))
  rw[zr8,hc,List.take_succ_cons]
  simp only[Int.toNat_natCast,hg,UInt8.ofNat_toNat]
  have hu:zbC (c::(s.drop (i+1)).take n)=(if zbT c=true then[] else[c])++zbC ((s.drop (i+1)).take n):=by
   unfold zbC
   rw[List.filter_cons]
   cases zbT c <;> rfl
  by_cases hbk:c=32\/c=9
  .have hb2:zbT c=true:=by rcases hbk with rfl|rfl <;> rfl
   have e6:(if zbT c=true then[] else[c])=[]:=by rw[hb2];rfl
   rw[hu,e6,List.nil_append]
   refine zg (by rcases hbk with h|h <;> simp[h]) (e5 b (by omega))
  .have hb2:zbT c=false:=by
    cases hq:zbT c with
    | false=>rfl
    | true=>exact absurd (by simpa[zbT]using hq) (fun h=>hbk (by rcases h with h|h <;> simp[h]))
   have e6:(if zbT c=true then[] else[c])=[c]:=by rw[hb2];rfl
   rw[hu,e6,<-List.append_assoc]
   exact zi (by simp;exact⟨fun h=>hbk (.inl h),fun h=>hbk (.inr h)⟩) (zd ⟨by omega,by omega⟩ (zd (by simp;omega) (e5 (b++[c]) (by simp;omega))))
theorem zR5(s:List UInt8)(i:Nat)(r:List UInt8)(h:s.drop i=60::r):(zbt s [62] (i:Int)<0/\(yv r 62).1=r)\/(∃ j:Nat,zbt s [62] (i:Int)=((i+1+j:Nat):Int)/\j<r.length/\(yv r 62).1=r.take j):=by
 unfold zbt yv ixS
 rw[Int.toNat_natCast,h,zuI]
 have e1:Lib.indexByte (60::r) 62=if Lib.indexByte r 62==-1 then -1 else Lib.indexByte r 62+1:=by rw[Lib.indexByte];rfl
 have e2:(((62:UInt8).toNat:Int)).toNat.toUInt8=62:=rfl
 rw[e1,e2]
 have hge:=Lib.indexByte_ge r 62
 have hlt:=zcY r 62
 by_cases hn:Lib.indexByte r 62=-1
 .rw [hn]
  exact .inl ⟨by simp,by simp⟩
 .rw [if_neg (show ¬ (Lib.indexByte r 62==-1)=true by simpa using hn),if_neg (by omega),if_pos (by omega)]
  exact .inr ⟨(Lib.indexByte r 62).toNat,by omega,by omega,rfl⟩
theorem zNZ(F:Nat)(s:List UInt8)(hS:s.length<=40000):∀ (n:Nat) (r:List UInt8) (i f:Nat) (ws:List (List UInt8)) (an:List UInt8) (hs:Bool) (out:List yl),r.length<=n->s.drop i=r->i+r.length=s.length->zav ws+ws.length<=2*i->an.length<=s.length->out.length<=i->r.length+1<f->
 yj F f s (i:Int) an hs ws out=some (.p (.list 3 (.dat zbZ (adF (r.length+1) r ws an hs out))),[]):=by
 intro n
 have gtk:∀ (i:Nat) (ws:List (List UInt8)) (an:List UInt8) (out:List yl),i<=s.length->zav ws+ws.length<=2*i->an.length<=s.length->out.length<=i->zfo ws an out:=fun i ws an out h0 h1 h2 h3=>⟨by omega,by omega,by omega⟩
 have hnil:∀ (i f:Nat) (ws:List (List UInt8)) (an:List UInt8) (hs:Bool) (out:List yl),i=s.length->zav ws+ws.length<=2*i->an.length<=s.length->out.length<=i->0<f->
  yj F f s (i:Int) an hs ws out=some (.p (.list 3 (.dat zbZ (adF (([]:List UInt8).length+1) [] ws an hs out))),[]):=fun i f ws an hs out hi h1 h2 h3 hf=>by
  obtain⟨f,rfl⟩:∃ k,f=k+1:=⟨f-1,by omega⟩
  rw[zik]
  exact zg (decide_eq_false (by omega)) (zd (gtk i ws an out (by omega) h1 h2 h3) rfl)
 induction n with
 | zero=>
  intro r i f ws an hs out hn hd hl hw ha ho hf
  obtain rfl:r=[]:=List.eq_nil_of_length_eq_zero (by omega)
  exact hnil i f ws an hs out (by simpa using hl) hw ha ho (by omega)
 | succ n ih=>
  intro r i f ws an hs out hn hd hl hw ha ho hf
  cases r with
  | nil=>exact hnil i f ws an hs out (by simpa using hl) hw ha ho (by omega)
  | cons c r=>
   obtain⟨f,rfl⟩:∃ k,f=k+1:=⟨f-1,by omega⟩
   obtain⟨hg,hd2,hi⟩:=zap hd
   rw[List.length_cons]at hn hl hf
   have e1:((i:Int)+1)=((i+1:Nat):Int):=by omega
   have e2:((i+1:Nat):Int).toNat=i+1:=Int.toNat_natCast _
   have hdd:∀ k,s.drop (i+1+k)=r.drop k:=fun k=>by rw[<-hd2,List.drop_drop]
   have key:∀ (k:Nat) (ws':List (List UInt8)) (an':List UInt8) (hs':Bool) (out':List yl),k<=r.length->zav ws'+ws'.length<=2*(i+1+k)->an'.length<=s.length->out'.length<=i+1->
    yj F f s ((i+1+k:Nat):Int) an' hs' ws' out'=some (.p (.list 3 (.dat zbZ (adF (r.length+1) (r.drop k) ws' an' hs' out'))),[]):=fun k ws' an' hs' out' hk h1 h2 h3=>by
    have hlen:(r.drop k).length=r.length-k:=List.length_drop
    rw[ih (r.drop k) (i+1+k) f ws' an' hs' out' (by omega) (hdd k) (by omega) h1 h2 (by omega) (by omega)]
    rw[zqe ((r.drop k).length+1) (r.length+1) (r.drop k) ws' an' hs' out' (by omega) (by omega)]
   have key0:=fun ws' an' hs' out'=>key 0 ws' an' hs' out' (Nat.zero_le _)
   simp only[Nat.add_zero,List.drop_zero]at key0
   have hrd:zlJ s (i+1:Nat):=⟨by omega,by omega,by omega⟩
   have ei:zh ((i+1:Nat):Int):=by unfold zh;omega
   rw[zik]
   refine zi (decide_eq_true (by omega)) (zd ⟨by omega,by omega⟩ ?_)
   rw[Int.toNat_natCast,hg,e1,e2,hd2,ym c 34 34 34 rfl rfl,ym c 40 40 40 rfl rfl,ym c 60 60 60 rfl rfl,ym c 58 58 58 rfl rfl,ym c 44 44 44 rfl rfl,ym c 59 59 59 rfl rfl]
   rw[List.length_cons,adF]
   by_cases h34:c=34
   .rw [if_pos h34]
    refine zi (decide_eq_true h34) ?_
    have hwi:=zoi r.length r (Nat.le_refl _)
    refine zd ei (zd hrd (zd (by simp;omega) ?_))
    rw[show(((i+1:Nat):Int)+((wiF r).2:Int))=((i+1+(wiF r).2:Nat):Int) by omega]
    exact key (wiF r).2 (ws++[(wiF r).1]) an hs out hwi.2 (by rw[zf3,List.length_append,List.length_singleton];omega) ha (by omega)
   rw[if_neg h34]
   refine zg (decide_eq_false h34) ?_
   by_cases h40:c=40
   .rw [if_pos h40]
    refine zi (decide_eq_true h40) ?_
    have hrm:=zlH r.length 1 r (Nat.le_refl _)
    refine zd ei (zd hrd ?_)
    rw[show(((i+1:Nat):Int)+(rmF 1 r:Int))=((i+1+rmF 1 r:Nat):Int) by omega]
    exact key (rmF 1 r) ws an hs out hrm (by omega) ha (by omega)
   rw[if_neg h40]
   refine zg (decide_eq_false h40) ?_
   by_cases h60:c=60
   .rw [if_pos h60]
    refine zi (decide_eq_true h60) (zd ⟨by omega,by omega,by simp;omega⟩ ?_)
    have hang:∀ (k m:Nat),i+1+m=k->k<=s.length->zfO F f s (i:Int) (k:Int) an hs ws out=yj F f s (if(s.length:Int)<((k:Int)+(1:Int)) then(s.length:Int) else((k:Int)+(1:Int))) (zbC (r.take m)) true ws out:=fun k m hk hks=>by
     rw[zr9,e1]
     refine zd ei ?_
     rw[zRF F f s an hs ws out k (by omega) hks m (i+1) f [] hk (by omega) (by simp),hd2,List.nil_append]
    rcases zR5 s i r (by rw[hd,h60])with⟨h1,h2⟩|⟨j,h1,h2,h3⟩
    .refine zi (decide_eq_true h1) ?_
     rw[hang s.length r.length (by omega) (Nat.le_refl _),if_pos (by omega),h2,List.take_length]
     have hun:=ziU r
     rw[show((s.length:Nat):Int)=((i+1+r.length:Nat):Int) by omega,key r.length ws _ true out (Nat.le_refl _) (by omega) (by omega) (by omega),List.drop_eq_nil_of_le (Nat.le_refl _),List.drop_eq_nil_of_le (show r.length<=r.length+1 by omega)]
     rfl
    .rw [h1]
     refine zg (decide_eq_false (by omega)) ?_
     have hun:=ziU (r.take j)
     have hjl:(r.take j).length=j:=by rw[List.length_take];omega
     rw[hang (i+1+j) j rfl (by omega),if_neg (by omega),h3,hjl,show((i+1+j:Nat):Int)+1=((i+1+(j+1):Nat):Int) by omega]
     exact key (j+1) ws _ true out (by omega) (by omega) (by omega) (by omega)
   rw[if_neg h60]
   refine zg (decide_eq_false h60) ?_
   by_cases h58:c=58
   .rw [if_pos h58]
    refine zi (decide_eq_true h58) (zd ei ?_)
    exact key0 [] [] false out (by simp[zav]) (by simp) (by omega)
   rw[if_neg h58]
   refine zg (decide_eq_false h58) ?_
   rw[zr6]
   have htl:=zsk ws an hs out
   have htk:zfo ws an out:=gtk i ws an out (by omega) hw ha ho
   by_cases h4:c=44\/c=59
   .rw [if_pos h4]
    refine zi (by rw[Bool.or_eq_true,decide_eq_true_iff,decide_eq_true_iff];exact h4) (zd htk ?_)
    rw[e1]
    exact zd ei (key0 [] [] false _ (by simp[zav]) (by simp) (by omega))
   rw[if_neg h4]
   refine zg (by rw[Bool.or_eq_false_iff,decide_eq_false_iff_not,decide_eq_false_iff_not];exact⟨fun h=>h4 (.inl h),fun h=>h4 (.inr h)⟩) ?_
   rw[zr5,ym c 32 32 32 rfl rfl,ym c 9 9 9 rfl rfl,ym c 10 10 10 rfl rfl,ym c 13 13 13 rfl rfl]
   by_cases hb:c=32\/c=9\/c=13\/c=10
   .rw [if_pos hb,e1]
    refine zi ?_ (zd ei (key0 ws an hs out (by omega) ha (by omega)))
    rcases hb with h|h|h|h <;> simp[h]
   rw[if_neg hb]
   refine zg ?_ ?_
   .simp only[not_or]at hb
    simp[hb]
   have htw:=zi6 yS r
   have hat:yS c=true:=by
    cases hq:yS c with
    | true=>rfl
    | false=>
     exfalso
     simp only[not_or]at hb h4
     simp[yS]at hq
     exact hb.2.2.2 (hq h34 h40 h60 h58 h4.1 h4.2 hb.1 hb.2.1 hb.2.2.1)
   rw[zDh F f s an hs ws out i (by omega) (by omega) (c::r) i f hd (Nat.le_refl _) (by rw[List.length_cons];omega) (by rw[List.length_cons];omega)]
   rw[List.takeWhile_cons_of_pos hat,List.length_cons,show i+((r.takeWhile yS).length+1)=i+1+(r.takeWhile yS).length by omega]
   have ewd:(s.drop i).take (i+1+(r.takeWhile yS).length-i)=c::r.takeWhile yS:=by
    rw[hd,show i+1+(r.takeWhile yS).length-i=(r.takeWhile yS).length+1 by omega,List.take_succ_cons]
    congr 1
    conv=>lhs;rw[<-List.takeWhile_append_dropWhile (p:=yS) (l:=r)]
    rw[List.take_left']
    simp
   have edw:r.drop (r.takeWhile yS).length=r.dropWhile yS:=by
    conv=>lhs;rw[<-List.takeWhile_append_dropWhile (p:=yS) (l:=r)]
    rw[List.drop_left']
    simp
   rw[ewd,key (r.takeWhile yS).length (ws++[c::r.takeWhile yS]) an hs out (by omega) (by rw[zf3,List.length_append,List.length_singleton,List.length_cons];omega) ha (by omega),edw]
   rfl
theorem zAe(s:List UInt8)(hS:s.length<=40000):zqr (s.length+2) s=some (.p (.list 3 (.dat zbZ (zcz s))),[]):=by
 rw[zyx]
 exact zNZ (s.length+2) s hS s.length s 0 (s.length+2) [] [] false [] (Nat.le_refl _) rfl (by simp) (by simp[zav]) (by simp) (by simp) (by omega)
def zix:List AV->Option (AV×Option Prop)
 | [.p (.str s)]=>some (.p (.list 3 (.dat zbZ (zcz s))),some (s.length<=40000))
 | _=>none
theorem zAv:zn Tryz.prog 123 zix:=by
 intro zs r ok he hok
 unfold zix at he
 split at he
 .cases he;exact⟨by kernel_rfl,zAY _ _ _ fun _=>zAe _ hok⟩
 .cases he
def zba(a b:List UInt8):Int:=Lib.compareBytes a b
theorem zeN(a b:UInt8)(x y:List UInt8):zba (a::x) (b::y)=if a<b then -1 else if b<a then 1 else zba x y:=rfl
theorem zjS:∀ a b:List UInt8,zba a b=-1\/zba a b=0\/zba a b=1
 | [],[]=>.inr (.inl rfl)
 | [],_::_=>.inl rfl
 | _::_,[]=>.inr (.inr rfl)
 | a::x,b::y=>by
  rw[zeN]
  split
  .exact .inl rfl
  .split
   .exact .inr (.inr rfl)
   .exact zjS x y
theorem zta:∀ a b:List UInt8,(Op.bytesLess a b=true↔zba a b=-1)/\(zba a b=0↔a=b)
 | [],[]=>by simp[Op.bytesLess,zba,Lib.compareBytes]
 | [],_::_=>by simp[Op.bytesLess,zba,Lib.compareBytes]
 | _::_,[]=>by simp[Op.bytesLess,zba,Lib.compareBytes]
 | a::x,b::y=>by
  obtain⟨h1,h2⟩:=zta x y
  rw[zeN,Op.bytesLess]
  by_cases hlt:a<b
  .rw [if_pos hlt]
   have hne:a≠b:=fun e=>by rw[e]at hlt;exact UInt8.lt_irrefl b hlt
   simp[hlt,hne]
  .rw [if_neg hlt]
   by_cases hgt:b<a
   .rw [if_pos hgt]
    have hne:a≠b:=fun e=>by rw[e]at hgt;exact UInt8.lt_irrefl b hgt
    simp[hlt,hne]
   .rw [if_neg hgt]
    have he:a=b:=UInt8.le_antisymm (UInt8.not_lt.1 hgt) (UInt8.not_lt.1 hlt)
    subst he
    simp[hlt,h1,h2]
theorem zs9:∀ a b:List UInt8,zba b a=- zba a b
 | [],[]=>rfl
 | [],_::_=>rfl
 | _::_,[]=>rfl
 | a::x,b::y=>by
  have ih:=zs9 x y
  rw[zeN,zeN]
  by_cases hlt:a<b
  .have:¬ b<a:=fun h=>UInt8.lt_irrefl a (UInt8.lt_trans hlt h)
   rw[if_neg this,if_pos hlt,if_pos hlt];rfl
  .by_cases hgt:b<a
   .rw [if_pos hgt,if_neg hlt,if_pos hgt]
   .rw [if_neg hgt,if_neg hlt,if_neg hlt,if_neg hgt,ih]
theorem zp3:∀ a b c:List UInt8,zba a b<=0->zba b c<=0->zba a c<=0
 | [],_,[],_,_=>by decide
 | [],_,_::_,_,_=>by show(-1:Int)<=0;decide
 | _::_,[],_,h,_=>absurd h (by show ¬ (1:Int)<=0;decide)
 | _::_,_::_,[],_,h=>absurd h (by show ¬ (1:Int)<=0;decide)
 | a::x,b::y,c::z,h,k=>by
  rw[zeN]at h k ⊢
  have lt3:∀ {p q r:UInt8},p<q->q<r->p<r:=fun h k=>UInt8.lt_trans h k
  by_cases h1:a<b
  .by_cases k1:b<c
   .rw [if_pos (lt3 h1 k1)];decide
   .by_cases k2:c<b
    .rw [if_neg k1,if_pos k2]at k;exact absurd k (by decide)
    .have e:b=c:=UInt8.le_antisymm (UInt8.not_lt.1 k2) (UInt8.not_lt.1 k1)
     rw[<-e,if_pos h1];decide
  .by_cases h2:b<a
   .rw [if_neg h1,if_pos h2]at h;exact absurd h (by decide)
   .have e:a=b:=UInt8.le_antisymm (UInt8.not_lt.1 h2) (UInt8.not_lt.1 h1)
    subst e
    rw[if_neg h1,if_neg h2]at h
    by_cases k1:a<c
    .rw [if_pos k1];decide
    .by_cases k2:c<a
     .rw [if_neg k1,if_pos k2]at k;exact absurd k (by decide)
     .rw [if_neg k1,if_neg k2]at k ⊢
      exact zp3 x y z h k
def zly:List AV->Option (AV×Option Prop)
 | [.p (.str s),.p (.str u)]=>some (.p (.int .i64 (zba s u)),none)
 | _=>none
theorem zFJ:zjY Tryz.prog 147 zly:=by
 intro zs r ok h hok M w vs hM hvs
 unfold zly at h
 split at h
 .rename_i s u
  cases h
  cases hvs with
  | cons h1 h2=>cases h2 with
   | cons h2 h3=>
    cases h3
    cases h1 with|p _ _ h1=>
    cases h2 with|p _ _ h2=>
    cases h1 with|str _ hs=>
    cases h2 with|str _ hu=>
    refine⟨.int .i64 (zba s u),?_,.p _ _ (.int _ _ ?_)⟩
    .rw [run_callFunc_extern (fn:=Tryz.f147) (e:=Extern.BytealgCompare.compare) (by kernel_rfl) (by kernel_rfl) (by kernel_rfl) (by kernel_rfl) (by kernel_rfl)]
     rw[Lib.run_compareString];rfl
    .exact zd6 (by rcases zjS s u with h|h|h <;> rw[h] <;> unfold zh <;> omega)
 .cases h
def zyk:=mkG [(147,zly)] [] 8 [] [] []
def zqu(F:Nat)(s u:List UInt8):=zF zyk Tryz.f119 F [pS s,pS u]
theorem zyC(F s u):zqu F s u=some (.p (.int .i64 (zba s u)),[]):=by kernel_rfl
theorem zA1(F s u r):IsP 119 (zqu F s u) [.p (.str s),.p (.str u)] r:=zG zyk rfl ⟨zFJ.any,trivial⟩
theorem zBe(s u:List UInt8):zqu 0 s u=some (.p (.int .i64 (zba s u)),[]):=by rw[zyC]
def ziz:List AV->Option (AV×Option Prop)
 | [.p (.str s),.p (.str u)]=>some (.p (.int .i64 (zba s u)),none)
 | _=>none
theorem zAy:zn Tryz.prog 119 ziz:=by
 intro zs r ok he hok
 unfold ziz at he
 split at he
 .cases he;exact⟨by kernel_rfl,zA1 0 _ _ _ fun hx=>zBe _ _⟩
 .cases he
def zEn:=mkG [(119,ziz)] [] 8 [] [] []
def zvV(F:Nat)(s u:List UInt8):=zF zEn Tryz.f84 F [pS s,pS u]
theorem zCq(F s u):zvV F s u=some (.p (.int .i64 (zba s u)),[]):=by kernel_rfl
theorem zGs(F s u r):IsP 84 (zvV F s u) [.p (.str s),.p (.str u)] r:=zG zEn rfl ⟨zAy.any,trivial⟩
theorem zGJ(s u:List UInt8):zvV 0 s u=some (.p (.int .i64 (zba s u)),[]):=by rw[zCq]
def zlz:List AV->Option (AV×Option Prop)
 | [.p (.str s),.p (.str u)]=>some (.p (.int .i64 (zba s u)),none)
 | _=>none
theorem zFK:zn Tryz.prog 84 zlz:=by
 intro zs r ok he hok
 unfold zlz at he
 split at he
 .cases he;exact⟨by kernel_rfl,zGs 0 _ _ _ fun hx=>zGJ _ _⟩
 .cases he
def zLs:=mkG [] [] 11 [] [] []
def zBK(F:Nat)(s u:List UInt8):=zF zLs Tryz.f93 F [pS s,pS u]
theorem zG6(F s u):zBK F s u=cond (Op.bytesLess s u) (some (.p (.int .i64 (-1:Int)),[])) (cond (!(Op.bytesLess s u||s==u)) (some (.p (.int .i64 1),[])) (some (.p (.int .i64 0),[]))):=by kernel_rfl
theorem zJZ(F s u r):IsP 93 (zBK F s u) [.p (.str s),.p (.str u)] r:=zG zLs rfl trivial
theorem zIi(s u:List UInt8):zBK 0 s u=some (.p (.int .i64 (zba s u)),[]):=by
 obtain⟨h1,h2⟩:=zta s u
 rw[zG6]
 rcases zjS s u with h|h|h
 .rw [h];exact zi (h1.2 h) rfl
 .have hn:Op.bytesLess s u=false:=by
   cases hq:Op.bytesLess s u with
   | false=>rfl
   | true=>rw[h1.1 hq]at h;cases h
  rw[h,hn,h2.1 h]
  exact zg rfl (zg (by simp) rfl)
 .have hn:Op.bytesLess s u=false:=by
   cases hq:Op.bytesLess s u with
   | false=>rfl
   | true=>rw[h1.1 hq]at h;cases h
  have hne:(s==u)=false:=beq_eq_false_iff_ne.2 fun e=>by rw[h2.2 e]at h;cases h
  rw[h,hn,hne]
  exact zg rfl (zi rfl rfl)
def zoE:List AV->Option (AV×Option Prop)
 | [.p (.str s),.p (.str u)]=>some (.p (.int .i64 (zba s u)),none)
 | _=>none
theorem zIT:zn Tryz.prog 93 zoE:=by
 intro zs r ok he hok
 unfold zoE at he
 split at he
 .cases he;exact⟨by kernel_rfl,zJZ 0 _ _ _ fun hx=>zIi _ _⟩
 .cases he
def zLu:=mkG [] [] 11 [] [] []
def zBN(F:Nat)(x y:Int):=zF zLu Tryz.f92 F [pI x,pI y]
theorem zG7(F x y):zBN F x y=cond (decide (x<y)) (some (.p (.int .i64 (-1:Int)),[])) (cond (decide (x>y)) (some (.p (.int .i64 1),[])) (some (.p (.int .i64 0),[]))):=by kernel_rfl
theorem zJ0(F x y r):IsP 92 (zBN F x y) [.p (.int .i64 x),.p (.int .i64 y)] r:=zG zLu rfl trivial
theorem zIr(x y:Int):zBN 0 x y=some (.p (.int .i64 (zab x y)),[]):=by
 rw[zG7,zab]
 by_cases h:x<y
 .rw [if_pos h];exact zi (decide_eq_true h) rfl
 .rw [if_neg h]
  refine zg (decide_eq_false h) ?_
  by_cases h2:x>y
  .rw [if_pos h2];exact zi (decide_eq_true h2) rfl
  .rw [if_neg h2];exact zg (decide_eq_false h2) rfl
def zoF:List AV->Option (AV×Option Prop)
 | [.p (.int .i64 x),.p (.int .i64 y)]=>some (.p (.int .i64 (zab x y)),none)
 | _=>none
theorem zIU:zn Tryz.prog 92 zoF:=by
 intro zs r ok he hok
 unfold zoF at he
 split at he
 .cases he;exact⟨by kernel_rfl,zJ0 0 _ _ _ fun hx=>zIr _ _⟩
 .cases he
theorem znQ{M:Mem}{k:Nat}{a:Ec}{l:List (Elt a)}{v:Value}(h:zR M (.list k (.dat a l)) v):l.length<=maxLen:=by
 cases h with
 | listNil _ _ h0=>rw[show l.length=0 from h0];exact Nat.zero_le _
 | listZero _ _ _ h0=>rw[show l.length=0 from h0];exact Nat.zero_le _
 | list _ _ b off cap g hm hc hM hx=>exact hm
def zlT(l:List (List UInt8))(v:List UInt8):Int:=if l.any (v==·) then 1 else 0
def zLx:=mkG [] [] 18 [] [([0,1,0,1],⟨[0,1,5],[]⟩)] []
def zod(F f1:Nat)(l:List (List UInt8))(v:List UInt8)(vi1:Int):=zH zLx Tryz.f90 F [] [1,0,1,0] f1 [(0,pL 1 .str l),(1,pS v),(5,pI vi1)] []
def zRe(F:Nat)(l:List (List UInt8))(v:List UInt8):=zF zLx Tryz.f90 F [pL 1 .str l,pS v]
theorem zqV(F f1 l v vi1):letI A:=(l.length:Int);zod F (f1+1) l v vi1=cond (decide (vi1<A)) (ze (0<=vi1/\vi1<A) (cond ((l.getD vi1.toNat [])==v) (some (.p (.bool true),[])) (ze (zh (vi1+1)) (zod F f1 l v (vi1+1))))) (some (.p (.bool false),[])):=by kernel_rfl
theorem zMs(F l v):zRe F l v=zod F F l v 0:=by kernel_rfl
theorem zPf(F l v r):IsP 90 (zRe F l v) [.p (.list 1 (.dat .str l)),.p (.str v)] r:=zG zLx rfl trivial
theorem zsC(F:Nat)(l:List (List UInt8))(v:List UInt8)(hl:l.length<=maxLen):∀ (r:List (List UInt8)) (f i:Nat),l.drop i=r->i+r.length=l.length->r.length<f->
 zod F f l v (i:Int)=some (.p (.bool (r.any (v==·))),[])
 | [],f,i,hd,hi,hf=>by
  obtain⟨f,rfl⟩:∃ k,f=k+1:=⟨f-1,by omega⟩
  have hi:i=l.length:=by simpa using hi
  rw[zqV]
  exact zg (decide_eq_false (by omega)) rfl
 | x::r,f,i,hd,hi,hf=>by
  obtain⟨f,rfl⟩:∃ k,f=k+1:=⟨f-1,by omega⟩
  obtain⟨hg,hd2,hlt⟩:=yF hd ([]:List UInt8)
  rw[List.length_cons]at hi hf
  unfold maxLen at hl
  rw[zqV,Int.toNat_natCast,hg,List.any_cons]
  refine zi (decide_eq_true (by omega)) (zd ⟨by omega,by omega⟩ ?_)
  have hs:(x==v)=(v==x):=by rw[Bool.eq_iff_iff,beq_iff_eq,beq_iff_eq];exact eq_comm
  rw[hs]
  cases hc:v==x with
  | true=>rfl
  | false=>
   refine zg rfl (zd (by unfold zh;omega) ?_)
   rw[show((i:Int)+1)=((i+1:Nat):Int) by omega,Bool.false_or]
   exact zsC F l v (by unfold maxLen;omega) r f (i+1) hd2 (by omega) (by omega)
def znL:List AV->Option (AV×Option Prop)
 | [.p l,.p (.str v)]=>match zA .str l with
  | some l=>some (.p (.bool (l.any (v==·))),none)
  | none=>none
 | _=>none
theorem zDp:zn Tryz.prog 90 znL:=by
 intro zs r ok he hok
 unfold znL at he
 split at he
 .rename_i l' v
  split at he
  .rename_i l hl
   cases he
   exact⟨by kernel_rfl,FnP.lq (ys:=[.p (.list 1 (.dat .str l)),.p (.str v)]) ⟨Lq.list (a:=.str) hl,Lq.refl _,trivial⟩ (zPf (l.length+1) l v _ fun⟨M,vs,hv⟩=>by
    cases hv with|cons h1 _=>
    rw[zMs]
    exact zsC _ l v (znQ (a:=.str) h1.p_inv) l _ 0 rfl (by simp) (by omega))⟩
  .cases he
 .cases he
def zQV:=mkG [(90,znL)] [] 9 [] [] []
def zRd(F:Nat)(id th:Int)(tx:List UInt8)(at_:Int)(ke:List (List UInt8))(me:List (Int×Int))(mo bo:Int)(v:List UInt8):=zF zQV Tryz.f96 F [.agg [pI id,pI th,pS tx,pI at_,pL 1 .str ke,pL 2 (.pair (.int .i64) (.int .i64)) me,pI mo,pI bo],pS v]
theorem zMh(F id th tx at_ ke me mo bo v):zRd F id th tx at_ ke me mo bo v=cond (ke.any (v==·)) (some (.p (.int .i64 1),[])) (some (.p (.int .i64 0),[])):=by kernel_rfl
theorem zO9(F id th tx at_ ke me mo bo v r):IsP 96 (zRd F id th tx at_ ke me mo bo v) [.agg [.p (.int .i64 id),.p (.int .i64 th),.p (.str tx),.p (.int .i64 at_),.p (.list 1 (.dat .str ke)),.p (.list 2 (.dat (.pair (.int .i64) (.int .i64)) me)),.p (.int .i64 mo),.p (.int .i64 bo)],.p (.str v)] r:=zG zQV rfl ⟨zDp.any,trivial⟩
def zt6:List AV->Option (AV×Option Prop)
 | [.agg [.p (.int .i64 id),.p (.int .i64 th),.p (.str x),.p (.int .i64 at_),.p ke,.p me,.p (.int .i64 mo),.p (.int .i64 bo)],.p (.str v)]=>match zA .str ke,zA mbC me with
  | some ke',some me'=>some (.p (.int .i64 (zlT ke' v)),none)
  | _,_=>none
 | _=>none
theorem zOj:zn Tryz.prog 96 zt6:=by
 intro zs r ok he hok
 unfold zt6 at he
 split at he
 .rename_i id th x at_ ke me mo bo v
  split at he
  .rename_i ke' me' hke hme
   cases he
   exact⟨by kernel_rfl,FnP.lq (ys:=[.agg [.p (.int .i64 id),.p (.int .i64 th),.p (.str x),.p (.int .i64 at_),.p (.list (wid .str) (.dat .str ke')),.p (.list (wid mbC) (.dat mbC me')),.p (.int .i64 mo),.p (.int .i64 bo)],.p (.str v)]) ⟨Lq.agg ⟨Lq.refl _,Lq.refl _,Lq.refl _,Lq.refl _,Lq.list (a:=.str) hke,Lq.list (a:=mbC) hme,Lq.refl _,Lq.refl _,trivial⟩,Lq.refl _,trivial⟩
    (zO9 0 id th x at_ ke' me' mo bo v _ fun _=>by
     rw[zMh,zlT]
     cases ke'.any (v==·) <;> rfl)⟩
  .cases he
 .cases he
def zEe:=mkG [(152,zgW),(153,zgX)] [] 8 [] [] []
def zvE(F:Nat)(s:List UInt8):=zF zEe Tryz.f124 F [pS s]
theorem zBM(F s):letI A:=s.length<=1000000;zvE F s=ze A (cond (zaS s) (some (.p (.str s),[])) (ze A (some (.p (.str (zac s)),[])))):=by kernel_rfl
theorem zF9(F s r):IsP 124 (zvE F s) [.p (.str s)] r:=zG zEe rfl ⟨zsJ.any,zsL.any,trivial⟩
theorem zE6(s:List UInt8)(h:s.length<=1000000):zvE 0 s=some (.p (.str (zdo s)),[]):=by
 rw[zBM,zdo]
 refine zd (by omega) ?_
 cases zaS s with
 | true=>rfl
 | false=>exact zd (by omega) rfl
def zlh:List AV->Option (AV×Option Prop)
 | [.p (.str s)]=>some (.p (.str (zdo s)),some (s.length<=1000000))
 | _=>none
theorem zFs:zn Tryz.prog 124 zlh:=by
 intro zs r ok he hok
 unfold zlh at he
 split at he
 .cases he;exact⟨by kernel_rfl,zF9 0 _ _ fun hx=>zE6 _ hok⟩
 .cases he
def zl7:=mkG [(53,zdl),(122,zfa),(124,zlh),(125,zi7)] [] 22 [] [([1,1,1],⟨[5],[]⟩)] []
def zmZ(F:Nat)(vs1:List UInt8):=zx zl7 Tryz.f95 F [] [1,1,1] [(5,pS vs1)] []
def zl8(F:Nat)(s:List UInt8):=zF zl7 Tryz.f95 F [pS s]
theorem zqP(F vs1):zmZ F vs1=ze (vs1.length<=100000) (ze ((zcm vs1).length<=1000000) (some (.p (.str (zdo (zcm vs1))),[]))):=by kernel_rfl
theorem zvC(F s):letI A:=([83,117,98,106,101,99,116]:List UInt8);letI B:=zU s 0 (s.length:Int);zl8 F s=ze (s.length<=1000000) (ze (za8 B.1 A) (zmZ F (yf B.1 A).1)):=by kernel_rfl
theorem zxE(F s r):IsP 95 (zl8 F s) [.p (.str s)] r:=zG zl7 rfl ⟨ziG.any,zpp.any,zFs.any,zw9.any,trivial⟩
theorem zmD(l:List (List UInt8×List UInt8)){n n':List UInt8}(h:zL n=zL n'):yf l n=yf l n':=by
 induction l with
 | nil=>rfl
 | cons x r ih=>rw[yf,yf,h,ih]
theorem zwV(s:List UInt8)(hs:s.length<=50000):zl8 0 s=some (.p (.str (zbH s)),[]):=by
 have h1:=zlb s
 have h2:=zex (zf4 s)
 have h3:(yf (zU s 0 (s.length:Int)).1 [83,117,98,106,101,99,116]).1=zf4 s:=by
  unfold zf4
  rw[zmD _ (n':=zQN) (by kernel_rfl)]
 rw[zvC,h3]
 refine zd (by omega) (zd (zdV (by omega) (by simp)) ?_)
 rw[zqP]
 exact zd (by omega) (zd (by omega) rfl)
def zf6:List AV->Option (AV×Option Prop)
 | [.p (.str s)]=>some (.p (.str (zbH s)),some (s.length<=50000))
 | _=>none
theorem zxc:zn Tryz.prog 95 zf6:=by
 intro zs r ok he hok
 unfold zf6 at he
 split at he
 .cases he;exact⟨by kernel_rfl,zxE 0 _ _ fun hx=>zwV _ hok⟩
 .cases he
def szA(a:yl):Nat:=a.1.length+a.2.1.length+a.2.2.length
def szL(l:List yl):Nat:=(l.map szA).sum
theorem zNt(l:List yl)(a:yl):szL (l++[a])=szL l+szA a:=by simp[szL]
theorem zDc:∀ {l:List yl} {a:yl},a ∈ l->szA a<=szL l
 | [],_,h=>by cases h
 | x::r,a,h=>by
  have e:szL (x::r)=szA x+szL r:=by simp[szL]
  rcases List.mem_cons.1 h with rfl|h
  .omega
  .have:=zDc h;omega
theorem zw4(s:List UInt8):(zaJ s).1.length+(zaJ s).2.length<=s.length:=by
 unfold zaJ
 split
 .simp
 .rename_i h
  dsimp only
  rw[List.length_take,List.length_drop]
  omega
theorem zNp(ws:List (List UInt8))(an:List UInt8)(hs:Bool):szA (told ws an hs)<=12*(zav ws+ws.length)+an.length:=by
 have h1:=zex (yJ [32] ws)
 have h2:=zhd [32] ws
 have h3:=zhd [] ws
 have h4:=zw4 an
 have h5:=zw4 (yJ [] ws)
 simp only[List.length_cons,List.length_nil]at h2 h3
 unfold told szA
 split <;> (dsimp only;try simp only[List.length_nil]) <;> omega
theorem ztS(ws:List (List UInt8))(an:List UInt8)(hs:Bool)(out:List yl):szL (zbG ws an hs out)<=szL out+12*(zav ws+ws.length)+an.length:=by
 have h:=zNp ws an hs
 unfold zbG
 split
 .rw [zNt];omega
 .omega
theorem zRp(l:List UInt8):(zbC l).length<=l.length:=by have:=ziU l;omega
theorem zgw:∀ (f:Nat) (r:List UInt8) (ws:List (List UInt8)) (an:List UInt8) (hs:Bool) (out:List yl),szL (adF f r ws an hs out)<=szL out+12*(zav ws+ws.length)+an.length+24*r.length
 | 0,r,ws,an,hs,out=>by have:=ztS ws an hs out;rw[adF];omega
 | f+1,[],ws,an,hs,out=>by have:=ztS ws an hs out;rw[adF];omega
 | f+1,c::r,ws,an,hs,out=>by
  have h1:=zgw f (r.drop (wiF r).2) (ws++[(wiF r).1]) an hs out
  have h2:=zgw f (r.drop (rmF 1 r)) ws an hs out
  have h3:=zgw f (r.drop ((yv r 62).1.length+1)) ws (zbC (yv r 62).1) true out
  have h4:=zgw f r [] [] false out
  have h5:=zgw f r [] [] false (zbG ws an hs out)
  have h6:=zgw f r ws an hs out
  have h7:=zgw f (r.dropWhile yS) (ws++[c::r.takeWhile yS]) an hs out
  have h8:=ztS ws an hs out
  have h9:=zi6 yS r
  have k1:=zoi r.length r (Nat.le_refl _)
  have k2:=zRp (yv r 62).1
  have k3:=zjN r 62
  have e0:zav ([]:List (List UInt8))=0:=rfl
  rw[List.length_drop]at h1 h2 h3
  rw[zf3,List.length_append,List.length_singleton]at h1 h7
  rw[List.length_cons]at h7
  rw[e0,List.length_nil,List.length_nil]at h4 h5
  rw[adF,List.length_cons]
  split
  .omega
  .split
   .omega
   .split
    .omega
    .split
     .omega
     .split
      .omega
      .split <;> omega
theorem zJt(s:List UInt8):szL (zcz s)<=24*s.length:=by
 have:=zgw (s.length+1) s [] [] false []
 unfold zcz
 have e0:zav ([]:List (List UInt8))=0:=rfl
 have e1:szL []=0:=rfl
 rw[e0,e1,List.length_nil,List.length_nil]at this
 omega
end Go.Proofs.YtampckbjinodgaaGreatDoor
