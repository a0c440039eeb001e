/-
  Lifted functions, and facts about them.
-/
import Derived.Test.YtampckbjinodgaaGreatDoorRows
import Derived.Test.YtampckbjinodgaaGreatDoorC01
import Derived.Test.YtampckbjinodgaaGreatDoorAmC
import Derived.Test.YtampckbjinodgaaGreatDoorC05
import Derived.Test.YtampckbjinodgaaGreatDoorC04
import Derived.Test.YtampckbjinodgaaGreatDoorC03
set_option linter.unusedVariables false
noncomputable section
namespace Go.Proofs.YtampckbjinodgaaGreatDoor
open Go Go.Am
def zdz(c:UInt8):Bool:=decide (33<=c.toNat)&&decide (c.toNat<=126)
def zbS(s:List UInt8):(List UInt8×List UInt8)×Bool:=(((yv s 58).1,zbr (yv s 58).2.1),((yv s 58).2.2&&(yv s 58).1.all zdz)&&((yv s 58).1 != []))
def zEl:=mkG [(69,zul),(99,zoz)] [] 42 [] [([0,1,0,1,1],⟨[2,4,5,6,15,16],[⟨.slot 2,2,.cells []⟩]⟩),([1,1,1,0,0,1,0,1,1],⟨[2,4,5,6,15,16],[⟨.slot 2,2,.cells []⟩]⟩)] []
def zog(F f1:Nat)(vs1 vs2:List UInt8)(vc3:Bool)(vi4 vi5:Int):=zH zEl Tryz.f57 F [] [1,1,0,1,0] f1 [(2,.ref 2 0),(4,pS vs1),(5,pS vs2),(6,pB vc3),(15,pI vi4),(16,pI vi5)] [(2,.cells [pS ([]:List UInt8),pS ([]:List UInt8)])]
def zEM(F f1:Nat)(vs1 vs2:List UInt8)(vc6:Bool)(vi4 vi5:Int):=zx zEl Tryz.f57 F [f1] [1,1,0,1,0,0,1,1,1] [(2,.ref 2 0),(4,pS vs1),(5,pS vs2),(6,pB vc6),(15,pI vi4),(16,pI vi5)] [(2,.cells [pS ([]:List UInt8),pS ([]:List UInt8)])]
def zMY(F:Nat)(s:List UInt8):=zF zEl Tryz.f57 F [pS s]
theorem zrk(F f1 vs1 vs2 vc3 vi4 vi5):letI A:=((vs1.getD vi5.toNat 0).toNat:Int);letI B:=vc3&&(decide (A>=33));letI C:=(vs1.length:Int);zog F (f1+1) vs1 vs2 vc3 vi4 vi5=cond (decide (vi5<vi4)) (ze (vc3=true->0<=vi5/\vi5<C) (ze (B=true->0<=vi5/\vi5<C) (zEM F f1 vs1 vs2 (B&&(decide (A<=126))) vi4 vi5))) (ze (vs2.length<=1000000) (some (.tup [.agg [.p (.str vs1),.p (.str (zbr vs2))],.p (.bool (vc3&&(vs1 != ([]:List UInt8))))],[]))):=letI A:=(vc3&&(decide (((vs1.getD vi5.toNat 0).toNat:Int)>=33)))=true;letI B:=vc3=true;Eq.trans (by kernel_rfl) (zj (nI B (nI B (zf (nI B (nI B (nI A (nI A (zf (nI A (nI A rfl)))))))))) (zf (nI B (nI B rfl))))
theorem zC6(F f1 vs1 vs2 vc6 vi4 vi5):zEM F f1 vs1 vs2 vc6 vi4 vi5=ze (zh (vi5+1)) (zog F f1 vs1 vs2 vc6 vi4 (vi5+1)):=by kernel_rfl
theorem zMX(F s):letI A:=yv s 58;zMY F s=ze (s.length<=1000000) (zog F F A.1 A.2.1 A.2.2 (A.1.length:Int) 0):=by kernel_rfl
theorem zPs(F s r):IsP 57 (zMY F s) [.p (.str s)] r:=zG zEl rfl ⟨zJf.any,zIP.any,trivial⟩
theorem zAJ(c:UInt8)(m:Bool):((m&&(decide ((c.toNat:Int)>=(33:Int))))&&(decide ((c.toNat:Int)<=(126:Int))))=(m&&zdz c):=by
 unfold zdz
 rw[Bool.and_assoc,show decide ((c.toNat:Int)>=(33:Int))=decide (33<=c.toNat) from decide_eq_decide.2 (by omega),show decide ((c.toNat:Int)<=(126:Int))=decide (c.toNat<=126) from decide_eq_decide.2 (by omega)]
theorem zC5(F:Nat)(a b:List UInt8)(ha:a.length<=1000000)(hb:b.length<=1000000):∀ (r:List UInt8) (f i:Nat) (m:Bool),a.drop i=r->r.length<f->i<=a.length->
 zog F f a b m (a.length:Int) (i:Int)=some (.tup [.agg [.p (.str a),.p (.str (zbr b))],.p (.bool ((m&&r.all zdz)&&(a != [])))],[]):=by
 intro r
 induction r with
 | nil=>
  intro f i m hd hf hi
  have:i=a.length:=by have:=congrArg List.length hd;simp at this;omega
  cases f with
  | zero=>omega
  | succ f=>
   rw[zrk]
   refine zg (by simp;omega) (zd hb ?_)
   simp
 | cons c r ih=>
  intro f i m hd hf hi
  obtain⟨h1,h2,h3⟩:=yg hd
  cases f with
  | zero=>omega
  | succ f=>
   rw[zrk]
   refine zi (by simp;omega) (zd (fun _=>⟨by omega,by omega⟩) (zd (fun _=>⟨by omega,by omega⟩) ?_))
   rw[Int.toNat_natCast,h1,zAJ,zC6]
   refine zd (by unfold zh;omega) ?_
   rw[show(i:Int)+1=((i+1:Nat):Int) by omega,ih f (i+1) _ h2 (by simp at hf;omega) (by omega),List.all_cons,Bool.and_assoc m]
theorem zOV(s:List UInt8)(hs:s.length<=1000000):zMY (s.length+1) s=some (.tup [.agg [.p (.str (zbS s).1.1),.p (.str (zbS s).1.2)],.p (.bool (zbS s).2)],[]):=by
 have hl:=zjN s 58
 rw[zMX]
 refine zd hs ?_
 have:=zC5 (s.length+1) (yv s 58).1 (yv s 58).2.1 (by omega) (by omega) (yv s 58).1 (s.length+1) 0 (yv s 58).2.2 rfl (by omega) (by omega)
 exact this
def znN:List AV->Option (AV×Option Prop)
 | [.p (.str s)]=>some (.tup [.agg [.p (.str ((zbS s).1.1)),.p (.str ((zbS s).1.2))],.p (.bool ((zbS s).2))],some (s.length<=1000000))
 | _=>none
theorem zOz:zn Tryz.prog 57 znN:=by
 intro zs r ok he hok
 unfold znN at he
 split at he
 .cases he;exact⟨by kernel_rfl,zPs (_) _ _ fun hx=>zOV _ hok⟩
 .cases he
def lnF:List UInt8->Nat->List UInt8->List (Nat×List UInt8×Nat)
 | acc,a,[]=>if acc=[] then[] else[(a,acc,a+acc.length)]
 | acc,a,c::r=>if c=10 then(a,zaC acc [13],a+acc.length+1)::lnF [] (a+acc.length+1) r else lnF (acc++[c]) a r
theorem zAH{q:List UInt8}:∀ {p:List UInt8} (acc:List UInt8) (a:Nat),(∀ x ∈ p,x≠10)->lnF acc a (p++10::q)=(a,zaC (acc++p) [13],a+(acc++p).length+1)::lnF [] (a+(acc++p).length+1) q
 | [],acc,a,_=>by rw[List.nil_append,lnF,if_pos rfl,List.append_nil]
 | c::p,acc,a,h=>by rw[List.cons_append,lnF,if_neg (h c (by simp)),zAH (acc++[c]) a (fun x hx=>h x (List.mem_cons_of_mem _ hx)),List.append_assoc];rfl
theorem zuC:∀ {p:List UInt8} (acc:List UInt8) (a:Nat),(∀ x ∈ p,x≠10)->lnF acc a p=if acc++p=[] then[] else[(a,acc++p,a+(acc++p).length)]
 | [],acc,a,_=>by rw[lnF,List.append_nil]
 | c::p,acc,a,h=>by rw[lnF,if_neg (h c (by simp)),zuC (acc++[c]) a (fun x hx=>h x (List.mem_cons_of_mem _ hx)),List.append_assoc];rfl
theorem zwL(s p:List UInt8):(zaC s p).length<=s.length:=by unfold zaC;split <;> simp
def yp(s:List UInt8)(a b:Nat):List (Nat×List UInt8×Nat):=lnF [] a ((s.take b).drop a)
def zdD(l:Nat×List UInt8×Nat):Int×List UInt8×Int:=((l.1:Int),l.2.1,(l.2.2:Int))
def zlO(s:List UInt8)(a b:Int):List (Int×List UInt8×Int):=(yp s a.toNat b.toNat).map zdD
abbrev zuD(s:List UInt8)(a b:Int):Prop:=0<=a/\a<=b/\b<=s.length/\s.length<=1000000
theorem zzL(p:List UInt8):zaC p [13]=if p≠[]/\p.getD (p.length-1) 0=13 then p.take (p.length-1) else p:=by
 unfold zaC ziL
 by_cases h0:p=[]
 .subst h0;rfl
 .have hl:=List.length_pos_iff.2 h0
  have hd:p.drop (p.length-1)=[p.getD (p.length-1) 0]:=by
   rw[List.drop_eq_getElem_cons (by omega),List.getD_eq_getElem?_getD,List.getElem?_eq_getElem (by omega)]
   rw[List.drop_of_length_le (by omega)];rfl
  rw[show([13]:List UInt8).length=1 from rfl,hd]
  by_cases h:p.getD (p.length-1) 0=13
  .have e1:(decide ((p.length:Int)>=((1:Nat):Int))&&([p.getD (p.length-1) 0]==[13]))=true:=by rw[h];simp;omega
   rw[if_pos e1,if_pos ⟨h0,h⟩]
  .have e1:¬ (decide ((p.length:Int)>=((1:Nat):Int))&&([p.getD (p.length-1) 0]==[13]))=true:=by
    intro q
    rw[Bool.and_eq_true,beq_iff_eq]at q
    exact h (List.cons.inj q.2).1
   rw[if_neg e1,if_neg (fun q=>h q.2)]
def zaK:List UInt8->Bool
 | c::_=>c==32||c==9
 | []=>false
def yA:List (Nat×List UInt8×Nat)->Int->List (List UInt8)->List (List UInt8)×Int
 | [],body,g=>(g,body)
 | (_,t,nx)::r,body,g=>if t=[] then(g,(nx:Int)) else if g≠[]/\zaK t=true then yA r body (g.set (g.length-1) (g.getD (g.length-1) []++t)) else yA r body (g++[t])
def zaf(g:List (List UInt8)):List (List UInt8×List UInt8):=g.filterMap fun t=>if(zbS t).2=true then some (zbS t).1 else none
def zU(s:List UInt8)(a b:Int):List (List UInt8×List UInt8)×Int:=if a<0\/b>s.length\/a>b then([],a) else(zaf (yA (yp s a.toNat b.toNat) b []).1,(yA (yp s a.toNat b.toNat) b []).2)
theorem zpm{t:List UInt8}(h:zaK t=true):(zbS t).2=false:=by
 cases t with
 | nil=>cases h
 | cons c r=>
  have hc:c=32\/c=9:=by simpa[zaK]using h
  unfold zbS
  rcases zs6 58 (c::r)with⟨p,q,e,_,he⟩|⟨_,he⟩
  .rw [he]
   dsimp only
   cases p with
   | nil=>simp at e;rcases hc with h|h <;> rw[h]at e <;> exact absurd e.1 (by decide)
   | cons x p=>
    have:c=x:=(List.cons.inj e).1
    subst this
    rcases hc with h|h <;> subst h <;> simp[zdz]
  .rw [he];rfl
def zLy:=mkG [] [] 8 [] [] []
def zMz(F:Nat)(s:List UInt8)(a b:Int):=zam zLy Tryz.f56 ⟨[6],[⟨.comp 6 0,506000,.cells []⟩,⟨.comp 6 1,506001,.cells []⟩,⟨.comp 6 2,506002,.cells []⟩]⟩ [506000,506001,506002] F [pS s,pI a,pI b] []
theorem zHg(F s a b):zMz F s a b=some (.clo (.func 97) [] [.ref 506000 0,.ref 506001 0,.ref 506002 0],[(506000,.cells [.p (.int .i64 a)]),(506001,.cells [.p (.int .i64 b)]),(506002,.cells [.p (.str s)])]):=by kernel_rfl
theorem zJ5(F s a b r os):IsR 56 (zMz F s a b) [.p (.str s),.p (.int .i64 a),.p (.int .i64 b)] [] [] r os:=zb9 zLy ⟨[6],[⟨.comp 6 0,506000,.cells []⟩,⟨.comp 6 1,506001,.cells []⟩,⟨.comp 6 2,506002,.cells []⟩]⟩ [506000,506001,506002] rfl trivial
def zja:yM:=⟨[true,true,true],fun args ib=>match args,ib with
 | [.p (.str s),.p (.int .i64 a),.p (.int .i64 b)],[]=>some (([],.clo (.func 97) [] [.ref 506000 0,.ref 506001 0,.ref 506002 0]),([(506000,.cells [.p (.int .i64 a)]),(506001,.cells [.p (.int .i64 b)]),(506002,.cells [.p (.str s)])],none))
 | _,_=>none⟩
theorem zIY:zS Tryz.prog 56 zja:=by
 intro args ib kept r zZ ok he hok
 simp only[zja]at he
 split at he
 .cases he
  exact⟨by kernel_rfl,zJ5 0 _ _ _ _ _ fun _=>zHg 0 _ _ _⟩
 .cases he
abbrev zbe:List Nat:=[7,8,1001,1002,1003,1004,1005]
def oI(body:Int)(g:List (List UInt8))(i b:Int)(s:List UInt8)(rec:Loop):List (Nat×AObj):=[(1005,.raw (.loop rec)),(1004,.raw (.deferred (some []))),(7,.cells [.p (.int .i64 body)]),(8,.cells [.arr 81]),(81,.larr 9 true 1 (.dat .str g)),(1001,.cells [.p (.int .i64 i)]),(1002,.cells [.p (.int .i64 b)]),(1003,.cells [.p (.str s)])]
def cS:Code:=yw Tryz.f34
def cI:Code:=yw Tryz.f97
def zTS:Cut:=⟨[6,7,8,34],[⟨.slot 7,7,.cells []⟩,⟨.slot 8,8,.cells []⟩,⟨.cell 8 0,81,(.larr 9 true 1 (.dat .str ([]:List (List UInt8))))⟩,⟨.comp 34 0,1001,.cells []⟩,⟨.comp 34 1,1002,.cells []⟩,⟨.comp 34 2,1003,.cells []⟩]⟩
def zR2:K:=fun e s=>match e with|.normal=>zhT [] zTS .normal s|.ret=>kP Tryz.prog Tryz.f34.results.toList .ret s|_=>none
def GS0:Cfg:=⟨Tryz.prog,zh1 [],zlM [(56,zja)],98,[],[],[([],[3])]⟩
theorem zP4:zau Tryz.prog GS0.env:=zbQ (l:=[]) trivial
theorem zLR:zaR Tryz.prog GS0.envR:=zdi (l:=[(56,zja)]) ⟨zIY,trivial⟩
theorem zIF(s:List UInt8)(a b:Int):zan GS0 za5 [] (at_ cS [0]) (mkS [(0,.p (.str s)),(1,.p (.int .i64 a)),(2,.p (.int .i64 b))] []) (zbf GS0 (at_ cS [1,0]) (zbf GS0 (at_ cS [1,1,0]) (zbf GS0 (at_ cS [1,1,1,0]) (zbf GS0 (at_ cS [1,1,1,1,0,0]) zR2))))=cond (((decide (a<(0:Int)))||(decide (b>(s.length:Int))))||(decide (a>b))) (some (.tup [.p .nil,.p (.int .i64 a)],[])) (some (.tup [.p (.int .i64 (-1)),.p .nil,.ref 7 0,.ref 8 0,.clo (.func 97) [] [.ref 1001 0,.ref 1002 0,.ref 1003 0]],[(7,.cells [.p (.int .i64 b)]),(8,.cells [.arr 81]),(81,.larr 9 true 1 (.dat .str ([]:List (List UInt8)))),(1001,.cells [.p (.int .i64 a)]),(1002,.cells [.p (.int .i64 b)]),(1003,.cells [.p (.str s)])])):=
 Eq.trans (show zan GS0 za5 [] (at_ cS [0]) (mkS [(0,.p (.str s)),(1,.p (.int .i64 a)),(2,.p (.int .i64 b))] []) (zbf GS0 (at_ cS [1,0]) (zbf GS0 (at_ cS [1,1,0]) (zbf GS0 (at_ cS [1,1,1,0]) (zbf GS0 (at_ cS [1,1,1,1,0,0]) zR2))))=ze ((!(decide (a<(0:Int))))=true->(!(decide (a<(0:Int))))=true) (ze ((!(decide (a<(0:Int))))=true->(!(decide (a<(0:Int))))=true) (ze ((!(decide (a<(0:Int))))=true->(!(decide (a<(0:Int))))=true) (ze ((decide (a<(0:Int)))=false->(!(decide (a<(0:Int))))=true) (ze ((!((decide (a<(0:Int)))||(decide (b>(s.length:Int)))))=true->(!((decide (a<(0:Int)))||(decide (b>(s.length:Int)))))=true) (ze ((!((decide (a<(0:Int)))||(decide (b>(s.length:Int)))))=true->(!((decide (a<(0:Int)))||(decide (b>(s.length:Int)))))=true) (ze (((decide (a<(0:Int)))||(decide (b>(s.length:Int))))=false->(!((decide (a<(0:Int)))||(decide (b>(s.length:Int)))))=true) (cond (((decide (a<(0:Int)))||(decide (b>(s.length:Int))))||(decide (a>b))) (some (.tup [.p .nil,.p (.int .i64 a)],[])) (some (.tup [.p (.int .i64 (-1)),.p .nil,.ref 7 0,.ref 8 0,.clo (.func 97) [] [.ref 1001 0,.ref 1002 0,.ref 1003 0]],[(7,.cells [.p (.int .i64 b)]),(8,.cells [.arr 81]),(81,.larr 9 true 1 (.dat .str ([]:List (List UInt8)))),(1001,.cells [.p (.int .i64 a)]),(1002,.cells [.p (.int .i64 b)]),(1003,.cells [.p (.str s)])]))))))))) by kernel_rfl) (zl (show(!(decide (a<(0:Int))))=true->(!(decide (a<(0:Int))))=true from(fun q0=>q0)) (zl (show(!(decide (a<(0:Int))))=true->(!(decide (a<(0:Int))))=true from(fun q0=>q0)) (zl (show(!(decide (a<(0:Int))))=true->(!(decide (a<(0:Int))))=true from(fun q0=>q0)) (zl (show(decide (a<(0:Int)))=false->(!(decide (a<(0:Int))))=true from(fun q0=>(zen q0))) (zl (show(!((decide (a<(0:Int)))||(decide (b>(s.length:Int)))))=true->(!((decide (a<(0:Int)))||(decide (b>(s.length:Int)))))=true from(fun q0=>q0)) (zl (show(!((decide (a<(0:Int)))||(decide (b>(s.length:Int)))))=true->(!((decide (a<(0:Int)))||(decide (b>(s.length:Int)))))=true from(fun q0=>q0)) (zl (show((decide (a<(0:Int)))||(decide (b>(s.length:Int))))=false->(!((decide (a<(0:Int)))||(decide (b>(s.length:Int)))))=true from(fun q0=>(zen q0))) (rfl))))))))
def zKP:Cut:=⟨[0,1,2,3,5,6],[⟨.fix 1005,1005,.cells []⟩,⟨.fix 1004,1004,.cells []⟩,⟨.fix 7,7,.cells []⟩,⟨.fix 8,8,.cells []⟩,⟨.cell 8 0,81,.cells []⟩,⟨.fix 1001,1001,.cells []⟩,⟨.fix 1002,1002,.cells []⟩,⟨.fix 1003,1003,.cells []⟩]⟩
def GI:Cfg:=⟨Tryz.prog,zh1 [(74,zlt),(98,zDd)],zlM [],34,zbe,[],[]⟩
theorem zvx:zau Tryz.prog GI.env:=zbQ (l:=[(74,zlt),(98,zDd)]) ⟨zAw.any,zTz.any,trivial⟩
theorem zEr:zaR Tryz.prog GI.envR:=zdi (l:=[]) trivial
theorem zQF(l:Nat)(s:List UInt8)(body i b:Int)(g:List (List UInt8))(rec:Loop):zan GI za5 [] (at_ cI [0,0,0]) (mkS [(0,.clo (.yield l) [] []),(1,.ref 1001 0),(2,.ref 1002 0),(3,.ref 1003 0)] (oI body g i b s rec)) (zbf GI (at_ cI [0,0,1,0,0]) (zbf GI (at_ cI [0,0,1,0,1,0]) (zhT zbe zKP)))=cond (decide (i<b)) (ze (0<=i/\i<=b/\b<=(s.length:Int)) (cond (decide ((ixS ((s.take (b).toNat).drop (i).toNat) (10:Int))>=(0:Int))) (ze (0<=(ixS ((s.take (b).toNat).drop (i).toNat) (10:Int))/\(ixS ((s.take (b).toNat).drop (i).toNat) (10:Int))<=(((s.take (b).toNat).drop (i).toNat).length:Int)) (ze ((((s.take (b).toNat).drop (i).toNat).take (ixS ((s.take (b).toNat).drop (i).toNat) (10:Int)).toNat).length<=1000000) (ze (zh (i+(ixS ((s.take (b).toNat).drop (i).toNat) (10:Int)))) (ze (zh ((i+(ixS ((s.take (b).toNat).drop (i).toNat) (10:Int)))+(1:Int))) (some (.tup [.p (.int .i64 (-1)),.clo (.yield l) [] [],.ref 1001 0,.ref 1002 0,.ref 1003 0,.p (.str (zaC (((s.take (b).toNat).drop (i).toNat).take (ixS ((s.take (b).toNat).drop (i).toNat) (10:Int)).toNat) ([13]:List UInt8))),.p (.int .i64 ((i+(ixS ((s.take (b).toNat).drop (i).toNat) (10:Int)))+(1:Int)))],(oI body g i b s rec))))))) (some (.tup [.p (.int .i64 (-1)),.clo (.yield l) [] [],.ref 1001 0,.ref 1002 0,.ref 1003 0,.p (.str ((s.take (b).toNat).drop (i).toNat)),.p (.int .i64 b)],(oI body g i b s rec))))) (some (.tup [.p (.int .i64 (0)),.clo (.yield l) [] [],.ref 1001 0,.ref 1002 0,.ref 1003 0,.any,.any],(oI body g i b s rec))):=by kernel_rfl
def zTR:Cut:=⟨[0,1,2,3],[⟨.fix 1005,1005,.cells []⟩,⟨.fix 1004,1004,.cells []⟩,⟨.fix 7,7,.cells []⟩,⟨.fix 8,8,.cells []⟩,⟨.cell 8 0,81,.cells []⟩,⟨.fix 1001,1001,.cells []⟩,⟨.fix 1002,1002,.cells []⟩,⟨.fix 1003,1003,.cells []⟩]⟩
theorem zR9(l:Nat)(s:List UInt8)(body i b:Int)(g:List (List UInt8))(nx:Int)(c:Bool)(rec:Loop):zan GI za5 [] (at_ cI [0,0,1,0,1,1,0,1]) (mkS [(0,.clo (.yield l) [] []),(1,.ref 1001 0),(2,.ref 1002 0),(3,.ref 1003 0),(6,.p (.int .i64 nx)),(32,.p (.bool c))] (oI body g i b s rec)) (zbf GI (at_ cI [0,0,1,0,1,1,1]) (zhT zbe zTR))=cond (c) (some (.tup [.p (.int .i64 (-2)),.clo (.yield l) [] [],.ref 1001 0,.ref 1002 0,.ref 1003 0],(oI body g i b s rec))) (some (.tup [.p (.int .i64 (-1)),.clo (.yield l) [] [],.ref 1001 0,.ref 1002 0,.ref 1003 0],(oI body g nx b s rec))):=by kernel_rfl
def rfA:Code:=match at_ cS [1,1,1,1,0,1,0]with|.rangeFunc _ _ x _=>x|c=>c
def rfB:Code:=match at_ cS [1,1,1,1,0,1,0]with|.rangeFunc _ _ _ x=>x|c=>c
def GR:Cfg:=⟨Tryz.prog,zh1 [],zlM [],98,zbe,[],[]⟩
theorem zLS:zau Tryz.prog GR.env:=zbQ (l:=[]) trivial
theorem zEq:zaR Tryz.prog GR.envR:=zdi (l:=[]) trivial
def cutA:Cut:=⟨[7,8,9,10],[⟨.fix 1005,1005,.cells []⟩,⟨.fix 1004,1004,.cells []⟩,⟨.fix 7,7,.cells []⟩,⟨.fix 8,8,.cells []⟩,⟨.cell 8 0,81,.cells []⟩,⟨.fix 1001,1001,.cells []⟩,⟨.fix 1002,1002,.cells []⟩,⟨.fix 1003,1003,.cells []⟩]⟩
def zSH:Cut:=⟨[],[⟨.fix 1005,1005,.cells []⟩,⟨.fix 1004,1004,.cells []⟩,⟨.fix 7,7,.cells []⟩,⟨.fix 8,8,.cells []⟩,⟨.cell 8 0,81,.cells []⟩,⟨.fix 1001,1001,.cells []⟩,⟨.fix 1002,1002,.cells []⟩,⟨.fix 1003,1003,.cells []⟩]⟩
theorem zSM(s t:List UInt8)(body i b nx:Int)(g:List (List UInt8))(rec:Loop):zan GR za5 [] rfA (mkS [(7,.ref 7 0),(8,.ref 8 0),(35,.p (.str t)),(36,.p (.int .i64 nx))] (oI body g i b s rec)) (zhT zbe cutA)=some (.tup [.p (.int .i64 (-1)),.ref 7 0,.ref 8 0,.p (.str t),.p (.int .i64 nx)],(oI body g i b s rec)):=by kernel_rfl
theorem zRC(s t:List UInt8)(body i b nx:Int)(g:List (List UInt8))(rec:Loop):zan GR za5 [] rfB (mkS [(7,.ref 7 0),(8,.ref 8 0),(9,.p (.str t)),(10,.p (.int .i64 nx))] (oI body g i b s rec)) (zhT zbe zSH)=cond (t==([]:List UInt8)) (some (.tup [.p (.int .i64 (0))],(oI nx g i b s rec))) (ze ((decide ((g.length:Int)>(0:Int)))=true->0<=(0:Int)/\(0:Int)<(t.length:Int)) (ze (((decide ((g.length:Int)>(0:Int)))&&(!(((t.getD ((0:Int)).toNat 0).toNat:Int)==(32:Int))))=true->0<=(0:Int)/\(0:Int)<(t.length:Int)) (cond ((decide ((g.length:Int)>(0:Int)))&&((((t.getD ((0:Int)).toNat 0).toNat:Int)==(32:Int))||(((t.getD ((0:Int)).toNat 0).toNat:Int)==(9:Int)))) (ze (zh ((g.length:Int)-(1:Int))) (ze (0<=((g.length:Int)-(1:Int))/\((g.length:Int)-(1:Int))<(g.length:Int)) (ze (((g.length:Int)-(1:Int)).toNat<g.length) (ze (zaW ((g.getD (((g.length:Int)-(1:Int)).toNat) []).length+t.length)) (ze (0<=((g.length:Int)-(1:Int))/\((g.length:Int)-(1:Int))<(g.length:Int)) (ze (((g.length:Int)-(1:Int)).toNat<g.length) (some (.tup [.p (.int .i64 (-1))],(oI body (g.set (((g.length:Int)-(1:Int)).toNat) ((g.getD (((g.length:Int)-(1:Int)).toNat) [])++t)) i b s rec))))))))) (ze ((g.length+[t].length)*16<=140737488355328) (some (.tup [.p (.int .i64 (-1))],(oI body (g++[t]) i b s rec))))))):=
 Eq.trans (show zan GR za5 [] rfB (mkS [(7,.ref 7 0),(8,.ref 8 0),(9,.p (.str t)),(10,.p (.int .i64 nx))] (oI body g i b s rec)) (zhT zbe zSH)=cond (t==([]:List UInt8)) (some (.tup [.p (.int .i64 (0))],(oI nx g i b s rec))) (ze ((decide ((g.length:Int)>(0:Int)))=true->(decide ((g.length:Int)>(0:Int)))=true) (ze ((decide ((g.length:Int)>(0:Int)))=true->0<=(0:Int)/\(0:Int)<(t.length:Int)) (ze ((decide ((g.length:Int)>(0:Int)))=true->(decide ((g.length:Int)>(0:Int)))=true) (ze ((decide ((g.length:Int)>(0:Int)))=true->(decide ((g.length:Int)>(0:Int)))=true) (ze (((decide ((g.length:Int)>(0:Int)))&&(!(((t.getD ((0:Int)).toNat 0).toNat:Int)==(32:Int))))=true->((decide ((g.length:Int)>(0:Int)))&&(!(((t.getD ((0:Int)).toNat 0).toNat:Int)==(32:Int))))=true) (ze (((decide ((g.length:Int)>(0:Int)))&&(!(((t.getD ((0:Int)).toNat 0).toNat:Int)==(32:Int))))=true->0<=(0:Int)/\(0:Int)<(t.length:Int)) (ze (((decide ((g.length:Int)>(0:Int)))&&(!(((t.getD ((0:Int)).toNat 0).toNat:Int)==(32:Int))))=true->((decide ((g.length:Int)>(0:Int)))&&(!(((t.getD ((0:Int)).toNat 0).toNat:Int)==(32:Int))))=true) (ze ((decide ((g.length:Int)>(0:Int)))=true->(decide ((g.length:Int)>(0:Int)))=true) (ze ((decide ((g.length:Int)>(0:Int)))=true->(((t.getD ((0:Int)).toNat 0).toNat:Int)==(32:Int))=false->((decide ((g.length:Int)>(0:Int)))&&(!(((t.getD ((0:Int)).toNat 0).toNat:Int)==(32:Int))))=true) (ze ((decide ((g.length:Int)>(0:Int)))=true->(decide ((g.length:Int)>(0:Int)))=true) (cond ((decide ((g.length:Int)>(0:Int)))&&((((t.getD ((0:Int)).toNat 0).toNat:Int)==(32:Int))||(((t.getD ((0:Int)).toNat 0).toNat:Int)==(9:Int)))) (ze (zh ((g.length:Int)-(1:Int))) (ze (0<=((g.length:Int)-(1:Int))/\((g.length:Int)-(1:Int))<(g.length:Int)) (ze (((g.length:Int)-(1:Int)).toNat<g.length) (ze (zaW ((g.getD (((g.length:Int)-(1:Int)).toNat) []).length+t.length)) (ze (0<=((g.length:Int)-(1:Int))/\((g.length:Int)-(1:Int))<(g.length:Int)) (ze (((g.length:Int)-(1:Int)).toNat<g.length) (some (.tup [.p (.int .i64 (-1))],(oI body (g.set (((g.length:Int)-(1:Int)).toNat) ((g.getD (((g.length:Int)-(1:Int)).toNat) [])++t)) i b s rec))))))))) (ze ((g.length+[t].length)*16<=140737488355328) (some (.tup [.p (.int .i64 (-1))],(oI body (g++[t]) i b s rec))))))))))))))) by kernel_rfl) (zj (rfl) (zl (show(decide ((g.length:Int)>(0:Int)))=true->(decide ((g.length:Int)>(0:Int)))=true from(fun q0=>q0)) (zf (zl (show(decide ((g.length:Int)>(0:Int)))=true->(decide ((g.length:Int)>(0:Int)))=true from(fun q0=>q0)) (zl (show(decide ((g.length:Int)>(0:Int)))=true->(decide ((g.length:Int)>(0:Int)))=true from(fun q0=>q0)) (zl (show((decide ((g.length:Int)>(0:Int)))&&(!(((t.getD ((0:Int)).toNat 0).toNat:Int)==(32:Int))))=true->((decide ((g.length:Int)>(0:Int)))&&(!(((t.getD ((0:Int)).toNat 0).toNat:Int)==(32:Int))))=true from(fun q0=>q0)) (zf (zl (show((decide ((g.length:Int)>(0:Int)))&&(!(((t.getD ((0:Int)).toNat 0).toNat:Int)==(32:Int))))=true->((decide ((g.length:Int)>(0:Int)))&&(!(((t.getD ((0:Int)).toNat 0).toNat:Int)==(32:Int))))=true from(fun q0=>q0)) (zl (show(decide ((g.length:Int)>(0:Int)))=true->(decide ((g.length:Int)>(0:Int)))=true from(fun q0=>q0)) (zl (show(decide ((g.length:Int)>(0:Int)))=true->(((t.getD ((0:Int)).toNat 0).toNat:Int)==(32:Int))=false->((decide ((g.length:Int)>(0:Int)))&&(!(((t.getD ((0:Int)).toNat 0).toNat:Int)==(32:Int))))=true from(fun q0 q1=>(zfx q0 (zen q1)))) (zl (show(decide ((g.length:Int)>(0:Int)))=true->(decide ((g.length:Int)>(0:Int)))=true from(fun q0=>q0)) (rfl))))))))))))
def oR(body:Int)(g:List (List UInt8)):List (Nat×AObj):=[(7,.cells [.p (.int .i64 body)]),(8,.cells [.arr 81]),(81,.larr 9 true 1 (.dat .str g))]
abbrev lR:List (Nat×AV):=[(6,.p .nil),(7,.ref 7 0),(8,.ref 8 0)]
def GT:Cfg:=⟨Tryz.prog,zh1 [(57,znN)],zlM [],98,[],[([0,1,0,1,1,1,1,1],⟨[6,7,66,67,68],[⟨.slot 6,6,(.larr 85 false 2 (.dat (.pair .str .str) ([]:List (List UInt8×List UInt8))))⟩,⟨.slot 7,7,.cells []⟩,⟨.slot 66,66,.cells []⟩]⟩),([1,0,1,0,0,1,1,0,0,1,0,1,1,1,1,1],⟨[6,7,13,66,67,68,84],[⟨.slot 6,6,(.larr 85 false 2 (.dat (.pair .str .str) ([]:List (List UInt8×List UInt8))))⟩,⟨.slot 7,7,.cells []⟩,⟨.slot 66,66,.cells []⟩]⟩),([1,1,1,0,0,1,0,1,1,1,1,1],⟨[6,7,66,67,68],[⟨.slot 6,6,(.larr 85 false 2 (.dat (.pair .str .str) ([]:List (List UInt8×List UInt8))))⟩,⟨.slot 7,7,.cells []⟩,⟨.slot 66,66,.cells []⟩]⟩)],[]⟩
theorem zSW:zau Tryz.prog GT.env:=zbQ (l:=[(57,znN)]) ⟨zOz.any,trivial⟩
theorem zP3:zaR Tryz.prog GT.envR:=zdi (l:=[]) trivial
def zks(F f1:Nat)(vi1 vi2:Int)(vl3:List (List UInt8×List UInt8))(vi4:Int)(vl5:List (List UInt8)):Option Ans:=zcI GT cS (kP Tryz.prog Tryz.f34.results.toList) F [] [1,1,1,1,1,0,1,0] f1 [(6,.arr 6),(7,.ref 7 0),(66,.arr 66),(67,.p (.int .i64 vi1)),(68,.p (.int .i64 vi2))] [(6,.larr 85 false 2 (.dat (.pair .str .str) vl3)),(7,.cells [.p (.int .i64 vi4)]),(66,.larr 9 true 1 (.dat .str vl5))]
def zwf(F f1:Nat)(vs6:List UInt8)(vi1 vi2:Int)(vc7:Bool)(vl3:List (List UInt8×List UInt8))(vi4:Int)(vl5:List (List UInt8)):Option Ans:=zcv GT cS (kP Tryz.prog Tryz.f34.results.toList) F [f1] [1,1,1,1,1,0,1,0,0,1,1,0,0,1,0,1] [(6,.arr 6),(7,.ref 7 0),(13,.p (.str vs6)),(66,.arr 66),(67,.p (.int .i64 vi1)),(68,.p (.int .i64 vi2)),(84,.p (.bool vc7))] [(6,.larr 85 false 2 (.dat (.pair .str .str) vl3)),(7,.cells [.p (.int .i64 vi4)]),(66,.larr 9 true 1 (.dat .str vl5))]
def zkr(F f1:Nat)(vi1 vi2:Int)(vl8:List (List UInt8×List UInt8))(vi9:Int)(vl10:List (List UInt8)):Option Ans:=zcv GT cS (kP Tryz.prog Tryz.f34.results.toList) F [f1] [1,1,1,1,1,0,1,0,0,1,1,1] [(6,.arr 6),(7,.ref 7 0),(66,.arr 66),(67,.p (.int .i64 vi1)),(68,.p (.int .i64 vi2))] [(6,.larr 85 false 2 (.dat (.pair .str .str) vl8)),(7,.cells [.p (.int .i64 vi9)]),(66,.larr 9 true 1 (.dat .str vl10))]
theorem zqU(F f1:Nat)(vi1 vi2:Int)(vl3:List (List UInt8×List UInt8))(vi4:Int)(vl5:List (List UInt8)):zks F (f1+1) vi1 vi2 vl3 vi4 vl5=cond (decide (vi2<vi1)) (ze (0<=vi2/\vi2<(vl5.length:Int)) (ze ((vi2).toNat<vl5.length) (ze ((vi2==(0:Int))=true->0<=(0:Int)/\(0:Int)<((vl5.getD ((vi2).toNat) []).length:Int)) (ze (((vi2==(0:Int))&&(!((((vl5.getD ((vi2).toNat) []).getD ((0:Int)).toNat 0).toNat:Int)==(32:Int))))=true->0<=(0:Int)/\(0:Int)<((vl5.getD ((vi2).toNat) []).length:Int)) (zwf F f1 (vl5.getD ((vi2).toNat) []) vi1 vi2 ((vi2==(0:Int))&&(((((vl5.getD ((vi2).toNat) []).getD ((0:Int)).toNat 0).toNat:Int)==(32:Int))||((((vl5.getD ((vi2).toNat) []).getD ((0:Int)).toNat 0).toNat:Int)==(9:Int)))) vl3 vi4 vl5))))) (some (.tup [.p (.list 2 (.dat (.pair .str .str) vl3)),.p (.int .i64 vi4)],[])):=
 Eq.trans (show zks F (f1+1) vi1 vi2 vl3 vi4 vl5=cond (decide (vi2<vi1)) (ze (0<=vi2/\vi2<(vl5.length:Int)) (ze ((vi2).toNat<vl5.length) (ze ((vi2==(0:Int))=true->(vi2==(0:Int))=true) (ze ((vi2==(0:Int))=true->0<=(0:Int)/\(0:Int)<((vl5.getD ((vi2).toNat) []).length:Int)) (ze ((vi2==(0:Int))=true->(vi2==(0:Int))=true) (ze ((vi2==(0:Int))=true->(vi2==(0:Int))=true) (ze (((vi2==(0:Int))&&(!((((vl5.getD ((vi2).toNat) []).getD ((0:Int)).toNat 0).toNat:Int)==(32:Int))))=true->((vi2==(0:Int))&&(!((((vl5.getD ((vi2).toNat) []).getD ((0:Int)).toNat 0).toNat:Int)==(32:Int))))=true) (ze (((vi2==(0:Int))&&(!((((vl5.getD ((vi2).toNat) []).getD ((0:Int)).toNat 0).toNat:Int)==(32:Int))))=true->0<=(0:Int)/\(0:Int)<((vl5.getD ((vi2).toNat) []).length:Int)) (ze (((vi2==(0:Int))&&(!((((vl5.getD ((vi2).toNat) []).getD ((0:Int)).toNat 0).toNat:Int)==(32:Int))))=true->((vi2==(0:Int))&&(!((((vl5.getD ((vi2).toNat) []).getD ((0:Int)).toNat 0).toNat:Int)==(32:Int))))=true) (ze ((vi2==(0:Int))=true->(vi2==(0:Int))=true) (ze ((vi2==(0:Int))=true->((((vl5.getD ((vi2).toNat) []).getD ((0:Int)).toNat 0).toNat:Int)==(32:Int))=false->((vi2==(0:Int))&&(!((((vl5.getD ((vi2).toNat) []).getD ((0:Int)).toNat 0).toNat:Int)==(32:Int))))=true) (ze ((vi2==(0:Int))=true->(vi2==(0:Int))=true) (zwf F f1 (vl5.getD ((vi2).toNat) []) vi1 vi2 ((vi2==(0:Int))&&(((((vl5.getD ((vi2).toNat) []).getD ((0:Int)).toNat 0).toNat:Int)==(32:Int))||((((vl5.getD ((vi2).toNat) []).getD ((0:Int)).toNat 0).toNat:Int)==(9:Int)))) vl3 vi4 vl5))))))))))))) (some (.tup [.p (.list 2 (.dat (.pair .str .str) vl3)),.p (.int .i64 vi4)],[])) by kernel_rfl) (zj (zf (zf (zl (show(vi2==(0:Int))=true->(vi2==(0:Int))=true from(fun q0=>q0)) (zf (zl (show(vi2==(0:Int))=true->(vi2==(0:Int))=true from(fun q0=>q0)) (zl (show(vi2==(0:Int))=true->(vi2==(0:Int))=true from(fun q0=>q0)) (zl (show((vi2==(0:Int))&&(!((((vl5.getD ((vi2).toNat) []).getD ((0:Int)).toNat 0).toNat:Int)==(32:Int))))=true->((vi2==(0:Int))&&(!((((vl5.getD ((vi2).toNat) []).getD ((0:Int)).toNat 0).toNat:Int)==(32:Int))))=true from(fun q0=>q0)) (zf (zl (show((vi2==(0:Int))&&(!((((vl5.getD ((vi2).toNat) []).getD ((0:Int)).toNat 0).toNat:Int)==(32:Int))))=true->((vi2==(0:Int))&&(!((((vl5.getD ((vi2).toNat) []).getD ((0:Int)).toNat 0).toNat:Int)==(32:Int))))=true from(fun q0=>q0)) (zl (show(vi2==(0:Int))=true->(vi2==(0:Int))=true from(fun q0=>q0)) (zl (show(vi2==(0:Int))=true->((((vl5.getD ((vi2).toNat) []).getD ((0:Int)).toNat 0).toNat:Int)==(32:Int))=false->((vi2==(0:Int))&&(!((((vl5.getD ((vi2).toNat) []).getD ((0:Int)).toNat 0).toNat:Int)==(32:Int))))=true from(fun q0 q1=>(zfx q0 (zen q1)))) (zl (show(vi2==(0:Int))=true->(vi2==(0:Int))=true from(fun q0=>q0)) (rfl))))))))))))) (rfl))
theorem zCW(F f1:Nat)(vs6:List UInt8)(vi1 vi2:Int)(vc7:Bool)(vl3:List (List UInt8×List UInt8))(vi4:Int)(vl5:List (List UInt8)):zwf F f1 vs6 vi1 vi2 vc7 vl3 vi4 vl5=cond (vc7) (zkr F f1 vi1 vi2 vl3 vi4 vl5) (ze (vs6.length<=1000000) (cond ((zbS vs6).2) (ze ((vl3.length+[((zbS vs6).1.1,(zbS vs6).1.2)].length)*32<=140737488355328) (zkr F f1 vi1 vi2 (vl3++[((zbS vs6).1.1,(zbS vs6).1.2)]) vi4 vl5)) (zkr F f1 vi1 vi2 vl3 vi4 vl5))):=by kernel_rfl
theorem zCV(F f1:Nat)(vi1 vi2:Int)(vl8:List (List UInt8×List UInt8))(vi9:Int)(vl10:List (List UInt8)):zkr F f1 vi1 vi2 vl8 vi9 vl10=ze (zh (vi2+(1:Int))) (zks F f1 vi1 (vi2+(1:Int)) vl8 vi9 vl10):=by kernel_rfl
theorem zNT(F:Nat)(body:Int)(g:List (List UInt8)):zan GT (znx GT F) [1,1,1,1,1] (at_ cS [1,1,1,1,1]) (mkS lR (oR body g)) (kP Tryz.prog Tryz.f34.results.toList)=zks F F (g.length:Int) (0:Int) ([]:List (List UInt8×List UInt8)) body g:=by kernel_rfl
end Go.Proofs.YtampckbjinodgaaGreatDoor
/-! A range over a function: zTs laws for putting the pieces together. -/
namespace Go.Am
open Go Go.RowKit
variable {P:Program}{C C':Ctx}{s s':S}{a a':Act}{w w' w1 w2:World}{γ γ' γ1 γ2:Nat->Option G}{M M' M1 M2:Mem}{o o' o1 o2:List (Nat×AObj)}
theorem zbb.of_st{l:List (Nat×AV)}(h:StG C γ M (mkS l o) a w):zbb γ M w o:=by
 refine⟨h.ob,fun id hu=>h.us id ?_,h.sep,fun id g b h1 h2 h3=>(h.lo id g b h1 h2 h3).2,⟨h.wok,fun b ⟨id,g,h1,h2,h3⟩=>h.notab (s:=mkS l o) h1 h2 h3⟩⟩
 show(zm id o).isSome=false
 rw[hu];rfl
theorem zGS{env:Env}(henv:zau P env){ops:Array Oper}{Q:Exit->Act->World->Prop}{l2:List Nat}:∀ (l:List Nat) {s s':S} {ps:List Prop} {a:Act} {w:World},
 zqb P env C.nt ops l s=some (s',ps)->All ps->St C s a w->(∀ a' w',St C s' a' w'->wpOpsIn (FW C.rd) 0 P ops Q l2 a' w')->wpOpsIn (FW C.rd) 0 P ops Q (l++l2) a w:=by
 intro l
 induction l with
 | nil=>intro s s' ps a w h hp hs hq;cases h;exact hq a w hs
 | cons i r ih=>
  intro s s' ps a w h hp hs hq
  simp only[zqb]at h
  simp only[List.cons_append,wpOpsIn]
  cases ho:ops[i]? with
  | none=>rw[ho]at h;cases h
  | some o=>
   rw[ho]at h
   dsimp only at h ⊢
   cases h1:yx P env C.nt ops o s with
   | none=>rw[h1]at h;cases h
   | some q=>
    obtain⟨s1,p1⟩:=q
    rw[h1]at h
    dsimp only at h
    cases h2:zqb P env C.nt ops r s1 with
    | none=>rw[h2]at h;cases h
    | some q=>
     obtain⟨s2,p2⟩:=q
     rw[h2]at h
     cases h
     obtain⟨hp1,hp2⟩:=All.append hp
     have:=zgs henv h1 hp1 hs (next:=wpOpsIn (FW C.rd) 0 P ops Q (r++l2)) (Q:=Q) fun a' w' hs'=>ih h2 hp2 hs' hq
     split
     .rename_i hw;rw[if_pos hw]at this;exact this
     .rename_i hw;rw[if_neg hw]at this;exact⟨fun _ _=>trivial,this⟩
def zD5(P:Program)(env:Env)(nt:Nat)(ops:Array Oper)(l:List Nat)(s:S)(fx:List Nat)(c:Cut):Option (Ans×List Prop):=
 match zqb P env nt ops l s with
 | some (s',ps)=>match zhT fx c .normal s' with
  | some r=>some (r,ps)
  | none=>none
 | none=>none
theorem zte{nt:Nat}{fx:List Nat}(hC:zbA C nt fx){env:Env}(henv:zau P env){ops:Array Oper}{Q:Exit->Act->World->Prop}{l l2:List Nat}{c:Cut}{t:AV}{xs:List AV}{ps:List Prop}
 (h:zD5 P env nt ops l s fx c=some ((.tup (t::xs),o),ps)) (hp:All ps) (hs:St C s a w) (hq:∀ a' w',St C (mkS (List.zip c.slots xs) o) a' w'->wpOpsIn (FW C.rd) 0 P ops Q l2 a' w'):wpOpsIn (FW C.rd) 0 P ops Q (l++l2) a w:=by
 unfold zD5 at h
 split at h
 .rename_i s' ps' he
  split at h
  .rename_i r hk
   cases h
   rw[<-hC.nt]at he
   exact zGS henv l he hp hs fun a' w' hs'=>hq a' w' ((zcB hC hk).2 _ _ hs')
  .cases h
 .cases h
theorem zIK{F:Fence}{n:Nat}{ops:Array Oper}{Q:Exit->Act->World->Prop}{i:Nat}{rest:List Nat}{o:Oper}(ho:ops[i]?=some o)(hg:o.guard=none)(h:o.wpIn F n P a w (wpOpsIn F n P ops Q rest) Q):wpOpsIn F n P ops Q (i::rest) a w:=by
 unfold wpOpsIn
 rw[ho]
 dsimp only
 rw[if_pos (by simp[Region.wanted,hg])]
 exact h
theorem zo4{f:Nat->Value}:∀ t,zp γ M (look t .any []) (f t):=fun _=>.any _
theorem yO{f:Nat->Value}{k:Nat}{x:AV}{l:List (Nat×AV)}(h:zp γ M x (f k))(hr:∀ t,zp γ M (look t .any l) (f t)):∀ t,zp γ M (look t .any ((k,x)::l)) (f t):=by
 intro t
 unfold look
 cases hb:Nat.beq t k with
 | true=>rw[Nat.eq_of_beq_eq_true hb];exact h
 | false=>exact hr t
theorem zJr{id:Nat}{x y:AObj}{r:List (Nat×AObj)}:∀ i,i≠id->zm i ((id,x)::r)=zm i ((id,y)::r):=by
 intro i hi
 unfold zm
 cases hb:Nat.beq i id with
 | true=>exact absurd (Nat.eq_of_beq_eq_true hb) hi
 | false=>rfl
theorem zdy{id:Nat}{x:AObj}{r:List (Nat×AObj)}:zm id ((id,x)::r)=some x:=by
 unfold zm
 rw[Nat.beq_refl]
theorem zp.ref_kept{γ γ':Nat->Option G}{M M':Mem}{id off:Nat}{v:Value}(h:zp γ M (.ref id off) v)(k:∀ g,γ id=some g->γ' id=some g):zp γ' M' (.ref id off) v:=by
 cases h with|ref _ _ b hb=>exact .ref _ _ b (k _ hb)
theorem zp.p_any{γ γ':Nat->Option G}{M M':Mem}(hM:MLe M M'){x:PV}{v:Value}(h:zp γ M (.p x) v):zp γ' M' (.p x) v:=.p _ _ (h.p_inv.mono hM)
theorem zp.clo0{fn:Fn}{v:Value}(h:zp γ M (.clo fn [] []) v):v=.func fn #[] #[]:=by
 cases h with
 | clo _ _ _ vf vc hf hc _ _=>
  have e1:vf=#[]:=Array.eq_empty_of_size_eq_zero hf
  have e2:vc=#[]:=Array.eq_empty_of_size_eq_zero hc
  rw[e1,e2]
theorem arr3{v:Array Value}(h:v.size=3):∃ x y z,v=#[x,y,z]:=by
 obtain⟨l⟩:=v
 match l,h with
 | [x,y,z],_=>exact⟨x,y,z,rfl⟩
theorem zp.clo3{fn:Fn}{x y z:AV}{v:Value}(h:zp γ M (.clo fn [] [x,y,z]) v):∃ p q r,v=.func fn #[] #[p,q,r]/\zp γ M x p/\zp γ M y q/\zp γ M z r:=by
 cases h with
 | clo _ _ _ vf vc hf hc _ h2=>
  have e1:vf=#[]:=Array.eq_empty_of_size_eq_zero hf
  obtain⟨p,q,r,rfl⟩:=arr3 hc
  exact⟨p,q,r,by rw[e1],h2 0 (by simp),h2 1 (by simp),h2 2 (by simp)⟩
theorem zbb.raw_at(h:zbb γ M w o){id b:Nat}{x:Obj}(hid:zm id o=some (.raw x))(hb:γ id=some (.cell b)):w.heap[b]?=some x/\b<w.heap.size:=by
 obtain⟨b',hg',hx,_⟩:=h.ob id _ hid
 rw[hb]at hg';cases hg'
 exact⟨hx,h.lt id _ b (by rw[hid];simp) hb rfl⟩
theorem zuM{tm:Array Value}{k t:Nat}{v:Value}(hk:k<tm.size):(tm.setIfInBounds k v).getD t undef=if k=t then v else tm.getD t undef:=by
 rw[Array.getD_eq_getD_getElem?,Array.getElem?_setIfInBounds]
 split
 .rename_i h;subst h;simp[]
 .rw [Array.getD_eq_getD_getElem?]
theorem zNB{nt:Nat}{l:List (Nat×AV)}{tm:Array Value}(hM:WOk M w)(hsl:∀ t,zp γ0 M (look t .any l) (tm.getD t undef))(hn:tm.size=nt):
 StG { w0:=w,M0:=M,own:=fun _=>False,nt:=nt,g0:=γ0 } γ0 M (mkS l []) { tmps:=tm,defers:=[] } w:=by
 refine⟨hsl,?_,fun _ _=>rfl,?_,?_,hM.toMOk,MLe.refl M,fun _ _ _=>rfl,⟨rfl,rfl,rfl,Nat.le_refl _,fun _ _ _=>rfl,hM.tabs,fun _ h=>h.elim⟩,rfl,hn,GLe.refl γ0⟩
 .intro id o ho;cases ho
 .intro id id' g g' b h1;exact absurd rfl h1
 .intro id g b h1;exact absurd rfl h1
theorem zK1{G:Cfg}(hG:zb0 G P C){nt:Nat}{fx:List Nat}(hC:zbA C nt fx){c1 c2 c3 c4:Code}{c:Cut}{t:AV}{xs:List AV}{Q:Exit->Act->World->Prop}{b:Nat}
 (hv:zan G za5 [] c1 s (zbf G c2 (zbf G c3 (zhT fx c)))=some (.tup (t::xs),o)) (hs:St C s a w)
 (hn:∀ a w,t=.p (.int .i64 (-1))->St C (mkS (List.zip c.slots xs) o) a w->c4.wpIn (FW C.rd) 0 P (Exit.inBlock b Q) a w)
 (he:∀ e a w,e≠.normal->zdk e=t->St C (mkS (List.zip c.slots xs) o) a w->Q e a w/\Exit.inBlock b Q e a w):
 (Code.seq c1 (.block b (.seq c2 (.seq c3 c4)))).wpIn (FW C.rd) 0 P Q a w:=by
 have key:∀ e s' a' w',e≠.normal->zhT fx c e s'=some (.tup (t::xs),o)->St C s' a' w'->Q e a' w'/\Exit.inBlock b Q e a' w':=by
  intro e s' a' w' hne hk hs'
  obtain⟨h1,h2⟩:=zcB hC hk
  exact he e a' w' hne h1 (h2 _ _ hs')
 refine wpIn_seq (yR hG hv hs fun e s1 a1 w1 hk1 hs1=>?_)
 cases e with
 | normal=>
  refine wpIn_block (wpIn_seq (yR hG (s:=s1) hk1 hs1 fun e s2 a2 w2 hk2 hs2=>?_))
  cases e with
  | normal=>
   refine wpIn_seq (yR hG (s:=s2) hk2 hs2 fun e s3 a3 w3 hk3 hs3=>?_)
   cases e with
   | normal=>
    obtain⟨h1,h2⟩:=zcB hC hk3
    exact hn a3 w3 h1.symm (h2 _ _ hs3)
   | exit i=>exact(key (.exit i) s3 a3 w3 (by simp) hk3 hs3).2
   | ret=>exact(key .ret s3 a3 w3 (by simp) hk3 hs3).2
   | goto i=>exact(key (.goto i) s3 a3 w3 (by simp) hk3 hs3).2
   | panic i=>exact(key (.panic i) s3 a3 w3 (by simp) hk3 hs3).2
   | outgrown=>exact(key .outgrown s3 a3 w3 (by simp) hk3 hs3).2
  | exit i=>exact(key (.exit i) s2 a2 w2 (by simp) hk2 hs2).2
  | ret=>exact(key .ret s2 a2 w2 (by simp) hk2 hs2).2
  | goto i=>exact(key (.goto i) s2 a2 w2 (by simp) hk2 hs2).2
  | panic i=>exact(key (.panic i) s2 a2 w2 (by simp) hk2 hs2).2
  | outgrown=>exact(key .outgrown s2 a2 w2 (by simp) hk2 hs2).2
 | exit i=>exact(key (.exit i) s1 a1 w1 (by simp) hk1 hs1).1
 | ret=>exact(key .ret s1 a1 w1 (by simp) hk1 hs1).1
 | goto i=>exact(key (.goto i) s1 a1 w1 (by simp) hk1 hs1).1
 | panic i=>exact(key (.panic i) s1 a1 w1 (by simp) hk1 hs1).1
 | outgrown=>exact(key .outgrown s1 a1 w1 (by simp) hk1 hs1).1
theorem ztP{G:Cfg}(hG:zb0 G P C)(F:Nat)(p:List Nat){c:Code}{s:S}{k:K}{r:Ans}{R:Exit->Act->World->Prop}(h:zan G (znx G F) p c s k=some r)(hs:St C s a w)(hk:∀ e s' a' w',k e s'=some r->St C s' a' w'->R e a' w'):c.wpIn (FW C.rd) 0 P R a w:=
 wpIn_mono ((zdr hG (fun p b s k Q=>ziE hG F p b s k Q) c p s k (fun e s'=>k e s'=some r) h (fun _ _ h=>h):T P C c s _) a w hs) fun e a' w' ⟨s',h1,h2⟩=>hk e s' a' w' h1 h2
end Go.Am
namespace Go.Proofs.YtampckbjinodgaaGreatDoor
open Go Go.Am
def yq(fn:FuncId)(tm:Array Value)(D:Nat)(st:LoopState)(pe:Option Code):Loop:={ state:=st,pending:=pe,fn:=fn,tmps:=tm,params:=#[35,36],assign:=rfA,body:=rfB,defers:=D }
def stp(t:List UInt8)(nx body:Int)(g:List (List UInt8)):Option Code×Int×List (List UInt8):=
 if t=[] then(some (.exit 0),nx,g) else if g≠[]/\zaK t=true then(none,body,g.set (g.length-1) (g.getD (g.length-1) []++t)) else(none,body,g++[t])
def tgJ(j:Option Code):AV:=match j with|none=>.p (.int .i64 (-1))|some _=>.p (.int .i64 0)
theorem zp7(c:UInt8):(((c.toNat:Int)==(32:Int))||((c.toNat:Int)==(9:Int)))=(c==32||c==9):=by
 have h:∀ k:Nat,k<256->(((c.toNat:Int)==((k:Nat):Int))=(c==UInt8.ofNat k)):=by
  intro k hk
  rw[Bool.eq_iff_iff,beq_iff_eq,beq_iff_eq]
  constructor
  .intro e
   have e:c.toNat=k:=by omega
   rw[<-e];simp
  .intro e;rw[e];simp;omega
 rw[show(32:Int)=((32:Nat):Int) from rfl,show(9:Int)=((9:Nat):Int) from rfl,h 32 (by decide),h 9 (by decide)];rfl
theorem zfl{t:List UInt8}(h0:t≠[]):(((((t.getD ((0:Int)).toNat 0).toNat:Int)==(32:Int)))||(((t.getD ((0:Int)).toNat 0).toNat:Int)==(9:Int)))=zaK t:=by
 cases t with
 | nil=>exact absurd rfl h0
 | cons c r=>exact zp7 c
theorem yi{α:Type}{l:List α}{i:Nat}(h:i<l.length)(d:α):l.getD i d ∈ l:=by
 rw[List.getD_eq_getElem?_getD,List.getElem?_eq_getElem h];exact List.getElem_mem h
theorem zNN(s t:List UInt8)(body i b nx:Int)(g:List (List UInt8))(rec:Loop)(hg:g.length<=1000000)(hx:∀ x ∈ g,x.length<=1000000)(ht:t.length<=1000000):
 zan GR za5 [] rfB (mkS [(7,.ref 7 0),(8,.ref 8 0),(9,.p (.str t)),(10,.p (.int .i64 nx))] (oI body g i b s rec)) (zhT zbe zSH)=some (.tup [tgJ (stp t nx body g).1],oI (stp t nx body g).2.1 (stp t nx body g).2.2 i b s rec):=by
 rw[zRC]
 unfold stp
 by_cases h0:t=[]
 .rw [if_pos h0];exact zi (by simpa using h0) rfl
 .rw [if_neg h0]
  refine zg (by simpa using h0) ?_
  have hl:=List.length_pos_iff.2 h0
  refine zd (fun _=>⟨by omega,by omega⟩) (zd (fun _=>⟨by omega,by omega⟩) ?_)
  rw[zfl h0]
  by_cases h1:g≠[]/\zaK t=true
  .rw [if_pos h1]
   have hgl:=List.length_pos_iff.2 h1.1
   refine zi (by rw[h1.2,Bool.and_true];simpa using hgl) ?_
   have e:((g.length:Int)-1).toNat=g.length-1:=by omega
   have hlast:=hx _ (yi (show g.length-1<g.length by omega) [])
   rw[e]
   refine zd (by unfold zh;omega) (zd ⟨by omega,by omega⟩ (zd (by omega) (zd (by unfold zaW;omega) (zd ⟨by omega,by omega⟩ (zd (by omega) rfl)))))
  .rw [if_neg h1]
   refine zg ?_ (zd (by simp;omega) rfl)
   cases hb:zaK t with
   | false=>rw[Bool.and_false]
   | true=>
    have:g=[]:=Classical.byContradiction fun q=>h1 ⟨q,hb⟩
    rw[this];rfl
abbrev zrN(γ γ':Nat->Option G):Prop:=∀ k ∈ zbe,∀ x,γ k=some x->γ' k=some x
theorem zrN.trans{γ γ1 γ2:Nat->Option G}(h:zrN γ γ1)(k:zrN γ1 γ2):zrN γ γ2:=fun i hi x hx=>k i hi x (h i hi x hx)
theorem zAB{γ:Nat->Option G}{M:Mem}{w:World}{body i b:Int}{g:List (List UInt8)}{s:List UInt8}{l:Nat}{r:Loop}(r':Loop)(h:zbb γ M w (oI body g i b s r))(hl:γ 1005=some (.cell l)):
 zbb γ M (w.putObj l (.loop r')) (oI body g i b s r')/\Chg γ (oI body g i b s r) M w γ (oI body g i b s r') M (w.putObj l (.loop r')):=
 h.setraw (id:=1005) (x:=.loop r) (y:=.loop r') zdy hl zdy zJr
theorem zIq{γ:Nat->Option G}{M:Mem}{w:World}{s t:List UInt8}{body i b nx:Int}{g:List (List UInt8)}{fn:FuncId}{tm:Array Value}{D l:Nat}{vt vn:Value}
 (hH:zbb γ M w (oI body g i b s (yq fn tm D .ready none))) (hl:γ 1005=some (.cell l)) (h7:zp γ M (.ref 7 0) (tm.getD 7 undef)) (h8:zp γ M (.ref 8 0) (tm.getD 8 undef))
 (ht:zp γ M (.p (.str t)) vt) (hn:zp γ M (.p (.int .i64 nx)) vn) (hsz:tm.size=98) (hg:g.length<=1000000) (hx:∀ x ∈ g,x.length<=1000000) (htl:t.length<=1000000):
 RoundIn (FW none) 0 Tryz.prog l fn ((tm.setIfInBounds 35 vt).setIfInBounds 36 vn) rfA rfB w fun e W'=>∃ (jump:Option Code) (γ':Nat->Option G) (M':Mem),e=.returned (.bool jump.isNone)/\(stp t nx body g).1=jump/\
  zbb γ' M' W' (oI (stp t nx body g).2.1 (stp t nx body g).2.2 i b s (yq fn tm D (if jump.isNone then .ready else .done) jump))/\
  Chg γ (oI body g i b s (yq fn tm D .ready none)) M w γ' (oI (stp t nx body g).2.1 (stp t nx body g).2.2 i b s (yq fn tm D (if jump.isNone then .ready else .done) jump)) M' W'/\zrN γ γ':=by
 refine RoundIn.mono (zIp (r:=yq fn tm D .ready none) (R:=fun jump W3=>∃ (γ':Nat->Option G) (M':Mem),(stp t nx body g).1=jump/\zbb γ' M' W3 (oI (stp t nx body g).2.1 (stp t nx body g).2.2 i b s (yq fn tm D .busy none))/\
  Chg γ (oI body g i b s (yq fn tm D .ready none)) M w γ' (oI (stp t nx body g).2.1 (stp t nx body g).2.2 i b s (yq fn tm D .busy none)) M' W3/\zrN γ γ') rfl ?_) ?_
 .have hG:zb0 GR Tryz.prog (zcS w M γ (oI body g i b s (yq fn tm D .ready none)) zbe 98 (some l) []):=⟨rfl,zLS,zEq,zay,Checked.mixed Tryz.checked⟩
  have hs0:St (zcS w M γ (oI body g i b s (yq fn tm D .ready none)) zbe 98 (some l) []) (mkS [(7,.ref 7 0),(8,.ref 8 0),(35,.p (.str t)),(36,.p (.int .i64 nx))] (oI body g i b s (yq fn tm D .ready none))) { tmps:=(tm.setIfInBounds 35 vt).setIfInBounds 36 vn,defers:=[] } w:=by
   refine⟨γ,M,hH.lend (yO ?_ (yO ?_ (yO ?_ (yO ?_ zo4)))) rfl (by simp[hsz])⟩
   .rw [zuM (by simp[hsz]),if_neg (by decide),zuM (by simp[hsz]),if_neg (by decide)];exact h7
   .rw [zuM (by simp[hsz]),if_neg (by decide),zuM (by simp[hsz]),if_neg (by decide)];exact h8
   .rw [zuM (by simp[hsz]),if_neg (by decide),zuM (by simp[hsz]),if_pos rfl];exact ht
   .rw [zuM (by simp[hsz]),if_pos rfl];exact hn
  refine yR hG (zSM s t body i b nx g _) hs0 fun e s1 a1 w1 hk1 hs1=>?_
  obtain⟨htag,hsub⟩:=zcB (zay (w:=w)) hk1
  have:=zcT htag
  subst this
  obtain⟨γ1,M1,hs1⟩:=hsub _ _ hs1
  obtain⟨hH1,hC1,hK1,hsl1,hdf1,hnt1⟩:=zbb.back hs1
  have hl1:=hK1 1005 (by decide) _ hl
  refine⟨(hH1.raw_at zdy hl1).1,?_⟩
  obtain⟨hH2,hC2⟩:=zAB (yq fn tm D .busy none) hH1 hl1
  have hG2:zb0 GR Tryz.prog (zcS (w1.putObj l (.loop (yq fn tm D .busy none))) M1 γ1 (oI body g i b s (yq fn tm D .busy none)) zbe 98 (some l) []):=⟨rfl,zLS,zEq,zay,Checked.mixed Tryz.checked⟩
  refine yR hG2 (zNN s t body i b nx g (yq fn tm D .busy none) hg hx htl) ⟨γ1,M1,hH2.lend hsl1 hdf1 hnt1⟩ fun e s2 a2 w2 hk2 hs2=>?_
  obtain⟨htag2,hsub2⟩:=zcB (zay (w:=w1.putObj l (.loop (yq fn tm D .busy none)))) hk2
  obtain⟨γ2,M2,hs2⟩:=hsub2 _ _ hs2
  obtain⟨hH3,hC3,hK3,_,_,_⟩:=zbb.back hs2
  have hl3:=hK3 1005 (by decide) _ hl1
  have hb:=(hH3.raw_at zdy hl3).1
  have hKK:zrN γ γ2:=fun k hk x hx=>hK3 k hk x (hK1 k hk x hx)
  cases hj:(stp t nx body g).1 with
  | none=>
   rw[hj]at htag2
   have:=zcT htag2
   subst this
   exact⟨hb,γ2,M2,rfl,hH3,(hC1.trans hC2).trans hC3,hKK⟩
  | some c=>
   have hc:c=.exit 0:=by
    unfold stp at hj
    split at hj
    .exact (Option.some.inj hj).symm
    .split at hj <;> cases hj
   rw[hj]at htag2
   have:=zot (i:=0) htag2
   subst this
   exact⟨hb,γ2,M2,by rw[hc],hH3,(hC1.trans hC2).trans hC3,hKK⟩
 .rintro e W' ⟨jump,W3,he,hW,γ',M',hj,hH,hC,hK⟩
  obtain⟨hH4,hC4⟩:=zAB (yq fn tm D (if jump.isNone then .ready else .done) jump) hH (hK 1005 (by decide) _ hl)
  exact⟨jump,γ',M',he,hj,by rw[hW];exact hH4,by rw[hW];exact hC.trans hC4,hK⟩
def zdZ(s:List UInt8)(i b:Nat):List UInt8×Nat:=
 if ixS ((s.take b).drop i) 10>=0 then(zaC (((s.take b).drop i).take (ixS ((s.take b).drop i) 10).toNat) [13],i+(ixS ((s.take b).drop i) 10).toNat+1) else((s.take b).drop i,b)
theorem zpr{s:List UInt8}{i b:Nat}(hi:i<b)(hb:b<=s.length):yp s i b=(i,(zdZ s i b).1,(zdZ s i b).2)::yp s (zdZ s i b).2 b/\i<(zdZ s i b).2/\(zdZ s i b).2<=b/\(zdZ s i b).1.length<=(zdZ s i b).2-i:=by
 have hlen:((s.take b).drop i).length=b-i:=by simp;omega
 have hix:ixS ((s.take b).drop i) 10=Lib.indexByte ((s.take b).drop i) 10:=zpA _ 10
 unfold zdZ yp
 rw[hix]
 rcases zeK 10 ((s.take b).drop i)with⟨p,q,e,hp,hk⟩|⟨hn,hk⟩
 .have hl2:p.length+1+q.length=b-i:=by rw[<-hlen,e];simp;omega
  rw[hk,if_pos (by omega),Int.toNat_natCast]
  have hq:(s.take b).drop (i+p.length+1)=q:=by
   rw[Nat.add_assoc,<-List.drop_drop,e,show p.length+1=(p++[(10:UInt8)]).length by simp,show p++10::q=(p++[10])++q by simp,List.drop_left]
  have hp2:((s.take b).drop i).take p.length=p:=by rw[e,List.take_left]
  refine⟨?_,by omega,by dsimp only;omega,?_⟩
  .dsimp only
   rw[hq,hp2,e,zAH [] i hp,List.nil_append]
  .dsimp only
   have:=zwL (((s.take b).drop i).take p.length) [13]
   rw[hp2]at this ⊢
   omega
 .rw [hk,if_neg (by decide)]
  refine⟨?_,hi,Nat.le_refl _,by dsimp only;omega⟩
  have h0:(s.take b).drop i≠[]:=by intro h;rw[h]at hlen;simp at hlen;omega
  rw[zuC [] i hn,List.nil_append,if_neg h0,hlen]
  have:(s.take b).drop b=[]:=by rw[List.drop_eq_nil_iff];simp;omega
  dsimp only
  rw[this,lnF,if_pos rfl,show i+(b-i)=b by omega]
theorem ziI{s:List UInt8}{i b:Nat}(h:b<=i):yp s i b=[]:=by
 have:(s.take b).drop i=[]:=by rw[List.drop_eq_nil_iff];simp;omega
 unfold yp;rw[this,lnF,if_pos rfl]
theorem zR7{l:Nat}{s:List UInt8}{i b:Nat}{body:Int}{g:List (List UInt8)}{rec:Loop}(hi:i<b)(hb:b<=s.length)(hs:s.length<=1000000):
 zan GI za5 [] (at_ cI [0,0,0]) (mkS [(0,.clo (.yield l) [] []),(1,.ref 1001 0),(2,.ref 1002 0),(3,.ref 1003 0)] (oI body g i b s rec)) (zbf GI (at_ cI [0,0,1,0,0]) (zbf GI (at_ cI [0,0,1,0,1,0]) (zhT zbe zKP)))=
  some (.tup [.p (.int .i64 (-1)),.clo (.yield l) [] [],.ref 1001 0,.ref 1002 0,.ref 1003 0,.p (.str (zdZ s i b).1),.p (.int .i64 ((zdZ s i b).2:Nat))],oI body g i b s rec):=by
 rw[zQF]
 have hlen:((s.take b).drop i).length=b-i:=by simp;omega
 refine zi (by simpa using hi) (zd ⟨by omega,by omega,by omega⟩ ?_)
 rw[Int.toNat_natCast,Int.toNat_natCast]
 unfold zdZ
 have h:=zJy ((s.take b).drop i) 10
 by_cases hc:ixS ((s.take b).drop i) 10>=0
 .rw [if_pos hc]
  have e:(i:Int)+ixS ((s.take b).drop i) 10+1=((i+(ixS ((s.take b).drop i) 10).toNat+1:Nat):Int):=by omega
  refine zi (by simpa using hc) (zd ⟨by omega,by omega⟩ (zd (by simp;omega) (zd (by unfold zh;omega) (zd (by unfold zh;omega) ?_))))
  rw[e]
 .rw [if_neg hc]
  exact zg (by simpa using hc) rfl
theorem zR8{l:Nat}{s:List UInt8}{i b:Nat}{body:Int}{g:List (List UInt8)}{rec:Loop}(hi:¬ i<b):
 zan GI za5 [] (at_ cI [0,0,0]) (mkS [(0,.clo (.yield l) [] []),(1,.ref 1001 0),(2,.ref 1002 0),(3,.ref 1003 0)] (oI body g i b s rec)) (zbf GI (at_ cI [0,0,1,0,0]) (zbf GI (at_ cI [0,0,1,0,1,0]) (zhT zbe zKP)))=
  some (.tup [.p (.int .i64 0),.clo (.yield l) [] [],.ref 1001 0,.ref 1002 0,.ref 1003 0,.any,.any],oI body g i b s rec):=by
 rw[zQF]
 exact zg (by simp;omega) rfl
end Go.Proofs.YtampckbjinodgaaGreatDoor
