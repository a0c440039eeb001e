/-
  Lifted functions, and facts about them.
-/
import Derived.Test.YtampckbjinodgaaGreatDoorRows
import Derived.Test.YtampckbjinodgaaGreatDoorAmC
import Derived.Test.YtampckbjinodgaaGreatDoorC20
namespace Go.Proofs.YtampckbjinodgaaGreatDoor
open Go Go.Am
set_option linter.unusedVariables false
abbrev dF:FoundT:=((((0:Int),((0:Int),(([]:List UInt8),((0:Int),(([]:List (List UInt8)),(([]:List (Int×Int)),((0:Int),(0:Int)))))))),(([]:List (List UInt8×List UInt8)),([]:List UInt8))),(([]:List UInt8),([]:List UInt8)))
theorem half_eq2 (i j:Nat) (h:i+j<=4000):IntKind.i64.wrap ((IntKind.u64.wrap ((i:Int)+(j:Int))).fdiv 2)=(((i+j) / 2:Nat):Int):=by
 have e1:IntKind.u64.wrap ((i:Int)+(j:Int))=(i:Int)+(j:Int):=wrap_of_has (by simp [IntKind.has,IntKind.min,IntKind.max,IntKind.signed,IntKind.bits]; omega)
 have e2:((i:Int)+(j:Int)).fdiv 2=(((i+j) / 2:Nat):Int):=by rw [Int.fdiv_eq_ediv_of_nonneg _ (by decide)]; omega
 rw [e1,e2]; exact i64_small (by omega) (by omega)
theorem bsearchF {α:Type} (B:Nat->Int->Int->α) (E:Int->α) (g:Nat->Bool) (lo hi:Nat)
 (step:∀ f i j:Nat,lo<=i->i < j->j<=hi->B (f+1) (i:Int) (j:Int)=cond (g ((i+j) / 2)) (B f (((i+j) / 2+1:Nat):Int) (j:Int)) (B f (i:Int) (((i+j) / 2:Nat):Int)))
 (stop:∀ f i:Nat,lo<=i->i<=hi->B (f+1) (i:Int) (i:Int)=E (i:Int)) (mono:∀ u v,lo<=u->u<=v->v < hi->g v=true->g u=true):
 ∀ n f i j:Nat,j - i<=n->n < f->lo<=i->i<=j->j<=hi->(∀ h,lo<=h->h < i->g h=true)->(∀ h,j<=h->h < hi->g h=false)->
 ∃ s:Nat,lo<=s/\s<=hi/\B f (i:Int) (j:Int)=E (s:Int)/\(∀ h,lo<=h->h < s->g h=true)/\(∀ h,s<=h->h < hi->g h=false):=by
 intro n
 induction n with
 | zero=>
  intro f i j hn hf h1 h2 h3 ha hb
  obtain ⟨f,rfl⟩:∃ k,f=k+1:=⟨f - 1,by omega⟩
  have:j=i:=by omega
  subst this
  exact ⟨j,h1,h3,stop f j h1 h3,ha,hb⟩
 | succ n ih=>
  intro f i j hn hf h1 h2 h3 ha hb
  obtain ⟨f,rfl⟩:∃ k,f=k+1:=⟨f - 1,by omega⟩
  by_cases hij:i=j
  .subst hij
   exact ⟨i,h1,h3,stop f i h1 h3,ha,hb⟩
  .rw [step f i j h1 (by omega) h3]
   cases hg:g ((i+j) / 2) with
   | true=>exact ih f ((i+j) / 2+1) j (by omega) (by omega) (by omega) (by omega) h3 (fun h q1 q2=>mono h ((i+j) / 2) q1 (by omega) (by omega) hg) hb
   | false=>exact ih f i ((i+j) / 2) (by omega) (by omega) h1 (by omega) (by omega) ha (fun h q1 q2=>by
    cases hh:g h with
    | false=>rfl
    | true=>rw [mono ((i+j) / 2) h (by omega) q1 q2 hh] at hg; cases hg)
theorem get_seg {P W Q:List FoundT} {u:Nat} (h1:P.length<=u) (h2:u - P.length < W.length) (d:FoundT):(P++(W++Q)).getD u d=W[u - P.length]:=by
 rw [List.getD_eq_getElem?_getD,List.getElem?_append_right h1,List.getElem?_append_left h2,List.getElem?_eq_getElem h2]; rfl
theorem srt_idx {R:FoundT->FoundT->Prop} {P W Q:List FoundT} (hW:W.Pairwise R) {u v:Nat} (h1:P.length<=u) (h2:u < v) (h3:v < P.length+W.length) (d:FoundT):R ((P++(W++Q)).getD u d) ((P++(W++Q)).getD v d):=by
 rw [get_seg h1 (by omega),get_seg (by omega) (by omega)]
 exact List.pairwise_iff_getElem.1 hW _ _ (by omega) (by omega) (by omega)
theorem mem_idx {P W Q:List FoundT} {x:FoundT} (hx:x ∈ W):∃ u,P.length<=u/\u < P.length+W.length/\∀ d,(P++(W++Q)).getD u d=x:=by
 obtain ⟨i,hi,rfl⟩:=List.getElem_of_mem hx
 refine ⟨P.length+i,by omega,by omega,fun d=>?_⟩
 rw [get_seg (by omega) (by omega)]
 congr 1; omega
theorem ids_idx {l:List FoundT} (h:IdsF l) {u v:Nat} (hu:u < l.length) (hv:v < l.length) (n:u≠v) (d:FoundT):idF (l.getD u d)≠idF (l.getD v d):=by
 rw [List.getD_eq_getElem?_getD,List.getD_eq_getElem?_getD,List.getElem?_eq_getElem hu,List.getElem?_eq_getElem hv]
 have:=List.pairwise_iff_getElem.1 h
 rcases Nat.lt_or_gt_of_ne n with q | q
 .exact this u v hu hv q
 .exact fun e=>this v u hv hu q e.symm
def srtd (o:List (Elt ordC)) (a b:Int) (l:List FoundT):Prop:=match o with
 | [(_,(_,dn))]=>((l.take b.toNat).drop a.toNat).Pairwise (LtF dn)
 | _=>False
theorem srtd_app (dn:Bool) (P W Q:List FoundT) (a b:Int) (ha:a=P.length) (hb:b=(P.length+W.length:Nat)):srtd (ordD dn) a b (P++(W++Q))↔W.Pairwise (LtF dn):=by
 subst ha; subst hb
 show (((P++(W++Q)).take _).drop _).Pairwise _↔_
 rw [Int.toNat_natCast,Int.toNat_natCast,<-List.append_assoc,take_leftN (by simp),drop_leftN rfl]
abbrev symok (k:Nat) (o:List (Elt ordC)) (a m b:Int) (l:List FoundT):Prop:=cmpok o/\0<=a/\a < m/\m < b/\b<=l.length/\l.length<=1000/\(b - a).toNat<=2 ^ k/\IdsF l/\srtd o a m l/\srtd o m b l
def sp_symG (k:Nat):RSpec:=⟨[false,true,true,true,true],fun args ib=>match args,ib with
 | [.arr 70000,.p (.int .i64 x),.p (.int .i64 y),.p (.int .i64 n),.clo (.func 30) [.p ol] []],[(70000,.larr 64 true 3 R)]=>match pList ordC ol,pList foundC (.list 3 R) with
  | some o,some l=>some (([70000],.tup []),([(70000,.larr 64 true 3 (.dat foundC (sortR o x n l)))],some (symok k o x y n l)))
  | _,_=>none
 | _,_=>none⟩
noncomputable def csymG:Code:=bodyOf Tryz.f83
noncomputable def GsymG (k:Nat):Cfg:=⟨Tryz.prog,mkEnv [(30,sp_compO)],mkEnvR [(83,sp_symG k),(118,sp_rotG)],220,[70000],[([0,0,1,1,0,1,0],⟨[0,1,4,10,11],[⟨.fix 70000,70000,.cells []⟩]⟩),([1,1,0,1,0,0,0,1,1,0,1,0],⟨[0,1,4,10,11,12,50],[⟨.fix 70000,70000,.cells []⟩]⟩),([0,1,0,1,1,1,0,1,0],⟨[0,10,13],[⟨.fix 70000,70000,.cells []⟩]⟩),([1,1,0,0,1,0,1,1,1,0,1,0],⟨[0,10,13],[⟨.fix 70000,70000,.cells []⟩]⟩),([0,0,1,1,0,1,0,1],⟨[0,2,4,14,15],[⟨.fix 70000,70000,.cells []⟩]⟩),([1,1,0,1,0,0,0,1,1,0,1,0,1],⟨[0,2,4,14,15,16,103],[⟨.fix 70000,70000,.cells []⟩]⟩),([0,1,0,1,1,1,0,1,0,1],⟨[0,14,17],[⟨.fix 70000,70000,.cells []⟩]⟩),([1,1,0,0,1,0,1,1,1,0,1,0,1],⟨[0,14,17],[⟨.fix 70000,70000,.cells []⟩]⟩),([1,1,1,1,1,1],⟨[0,1,2,3,4,18,19,20,21],[⟨.fix 70000,70000,.cells []⟩]⟩),([0,0,1,1,1,1,1,1,1],⟨[0,1,2,3,4,18,19,20,21,22],[⟨.fix 70000,70000,.cells []⟩]⟩),([1,1,0,1,0,0,0,1,1,1,1,1,1,1],⟨[0,1,2,3,4,18,19,20,21,22,23,171],[⟨.fix 70000,70000,.cells []⟩]⟩),([1,1,1,1,1,1,1,1,1,1],⟨[0,1,3,4,18,20,24],[⟨.fix 70000,70000,.cells []⟩]⟩),([1,1,1,1,1,1,1,1,1,1,1],⟨[0,3,4,18,24],[⟨.fix 70000,70000,.cells []⟩]⟩)],[([0,1,0,1,1,1,1,1,1,1,1,1],[5]),([0,1,0,1,1,1,1,1,1,1,1,1,1],[5]),([0,1,1,1,1,1,1,1,1,1,1,1,1],[5])]⟩
noncomputable def BsymG_1 (k F f1:Nat) (x:Int) (vl1:List (Int×List UInt8×Bool)) (vi2 vi3:Int) (vl4:List FoundT):Option Ans:=runR (GsymG k) csymG (kR Tryz.prog [70000] ⟨[],[⟨.fix 70000,70000,.cells []⟩]⟩ [70000] Tryz.f83.results.toList) F [] [0,1,0,1,1,0,0] f1 [(0,.arr 70000),(1,.p (.int .i64 x)),(4,.clo (.func 30) [.p (.list 3 (.dat (.pair (.int .i64) (.pair .str .bool)) vl1))] []),(10,.p (.int .i64 vi2)),(11,.p (.int .i64 vi3))] [(70000,.larr 64 true 3 (.dat foundC vl4))]
noncomputable def BsymG_2 (k F f1:Nat) (x:Int) (vl1:List (Int×List UInt8×Bool)) (vi2 vi3 vi5:Int) (vc6:Bool) (vl4:List FoundT):Option Ans:=runB (GsymG k) csymG (kR Tryz.prog [70000] ⟨[],[⟨.fix 70000,70000,.cells []⟩]⟩ [70000] Tryz.f83.results.toList) F [f1] [0,1,0,1,1,0,0,0,1,0,1,1] [(0,.arr 70000),(1,.p (.int .i64 x)),(4,.clo (.func 30) [.p (.list 3 (.dat (.pair (.int .i64) (.pair .str .bool)) vl1))] []),(10,.p (.int .i64 vi2)),(11,.p (.int .i64 vi3)),(12,.p (.int .i64 vi5)),(50,.p (.bool vc6))] [(70000,.larr 64 true 3 (.dat foundC vl4))]
noncomputable def BsymG_3 (k F f2:Nat) (vi2 vi7:Int) (vl8:List FoundT):Option Ans:=runR (GsymG k) csymG (kR Tryz.prog [70000] ⟨[],[⟨.fix 70000,70000,.cells []⟩]⟩ [70000] Tryz.f83.results.toList) F [] [0,1,0,1,1,1,0,1,0] f2 [(0,.arr 70000),(10,.p (.int .i64 vi2)),(13,.p (.int .i64 vi7))] [(70000,.larr 64 true 3 (.dat foundC vl8))]
noncomputable def BsymG_4 (k F f2:Nat) (vi2 vi7:Int) (vl9:List FoundT):Option Ans:=runB (GsymG k) csymG (kR Tryz.prog [70000] ⟨[],[⟨.fix 70000,70000,.cells []⟩]⟩ [70000] Tryz.f83.results.toList) F [f2] [0,1,0,1,1,1,0,1,0,0,1,1] [(0,.arr 70000),(10,.p (.int .i64 vi2)),(13,.p (.int .i64 vi7))] [(70000,.larr 64 true 3 (.dat foundC vl9))]
noncomputable def BsymG_5 (k F f3:Nat) (y:Int) (vl10:List (Int×List UInt8×Bool)) (vi11 vi12:Int) (vl13:List FoundT):Option Ans:=runR (GsymG k) csymG (kR Tryz.prog [70000] ⟨[],[⟨.fix 70000,70000,.cells []⟩]⟩ [70000] Tryz.f83.results.toList) F [] [1,0,1,0,1,1,0,0] f3 [(0,.arr 70000),(2,.p (.int .i64 y)),(4,.clo (.func 30) [.p (.list 3 (.dat (.pair (.int .i64) (.pair .str .bool)) vl10))] []),(14,.p (.int .i64 vi11)),(15,.p (.int .i64 vi12))] [(70000,.larr 64 true 3 (.dat foundC vl13))]
noncomputable def BsymG_6 (k F f3:Nat) (y:Int) (vl10:List (Int×List UInt8×Bool)) (vi11 vi12 vi14:Int) (vc15:Bool) (vl13:List FoundT):Option Ans:=runB (GsymG k) csymG (kR Tryz.prog [70000] ⟨[],[⟨.fix 70000,70000,.cells []⟩]⟩ [70000] Tryz.f83.results.toList) F [f3] [1,0,1,0,1,1,0,0,0,1,0,1,1] [(0,.arr 70000),(2,.p (.int .i64 y)),(4,.clo (.func 30) [.p (.list 3 (.dat (.pair (.int .i64) (.pair .str .bool)) vl10))] []),(14,.p (.int .i64 vi11)),(15,.p (.int .i64 vi12)),(16,.p (.int .i64 vi14)),(103,.p (.bool vc15))] [(70000,.larr 64 true 3 (.dat foundC vl13))]
noncomputable def BsymG_7 (k F f4:Nat) (vi11 vi16:Int) (vl17:List FoundT):Option Ans:=runR (GsymG k) csymG (kR Tryz.prog [70000] ⟨[],[⟨.fix 70000,70000,.cells []⟩]⟩ [70000] Tryz.f83.results.toList) F [] [1,0,1,0,1,1,1,0,1,0] f4 [(0,.arr 70000),(14,.p (.int .i64 vi11)),(17,.p (.int .i64 vi16))] [(70000,.larr 64 true 3 (.dat foundC vl17))]
noncomputable def BsymG_8 (k F f4:Nat) (vi11 vi16:Int) (vl18:List FoundT):Option Ans:=runB (GsymG k) csymG (kR Tryz.prog [70000] ⟨[],[⟨.fix 70000,70000,.cells []⟩]⟩ [70000] Tryz.f83.results.toList) F [f4] [1,0,1,0,1,1,1,0,1,0,0,1,1] [(0,.arr 70000),(14,.p (.int .i64 vi11)),(17,.p (.int .i64 vi16))] [(70000,.larr 64 true 3 (.dat foundC vl18))]
noncomputable def BsymG_9 (k F:Nat) (x y n:Int) (vl19:List (Int×List UInt8×Bool)) (vi20 vi21 vi22 vi23:Int) (l:List FoundT):Option Ans:=runB (GsymG k) csymG (kR Tryz.prog [70000] ⟨[],[⟨.fix 70000,70000,.cells []⟩]⟩ [70000] Tryz.f83.results.toList) F [] [1,1,1,1,1,1] [(0,.arr 70000),(1,.p (.int .i64 x)),(2,.p (.int .i64 y)),(3,.p (.int .i64 n)),(4,.clo (.func 30) [.p (.list 3 (.dat (.pair (.int .i64) (.pair .str .bool)) vl19))] []),(18,.p (.int .i64 vi20)),(19,.p (.int .i64 vi21)),(20,.p (.int .i64 vi22)),(21,.p (.int .i64 vi23))] [(70000,.larr 64 true 3 (.dat foundC l))]
noncomputable def BsymG_10 (k F f5:Nat) (x y n:Int) (vl19:List (Int×List UInt8×Bool)) (vi20 vi21 vi24 vi25 vi26:Int) (vl27:List FoundT):Option Ans:=runR (GsymG k) csymG (kR Tryz.prog [70000] ⟨[],[⟨.fix 70000,70000,.cells []⟩]⟩ [70000] Tryz.f83.results.toList) F [] [1,1,1,1,1,1,1,0,0] f5 [(0,.arr 70000),(1,.p (.int .i64 x)),(2,.p (.int .i64 y)),(3,.p (.int .i64 n)),(4,.clo (.func 30) [.p (.list 3 (.dat (.pair (.int .i64) (.pair .str .bool)) vl19))] []),(18,.p (.int .i64 vi20)),(19,.p (.int .i64 vi21)),(20,.p (.int .i64 vi24)),(21,.p (.int .i64 vi25)),(22,.p (.int .i64 vi26))] [(70000,.larr 64 true 3 (.dat foundC vl27))]
noncomputable def BsymG_11 (k F f5:Nat) (x y n:Int) (vl19:List (Int×List UInt8×Bool)) (vi20 vi21 vi24 vi25 vi26 vi28:Int) (vc29:Bool) (vl27:List FoundT):Option Ans:=runB (GsymG k) csymG (kR Tryz.prog [70000] ⟨[],[⟨.fix 70000,70000,.cells []⟩]⟩ [70000] Tryz.f83.results.toList) F [f5] [1,1,1,1,1,1,1,0,0,0,1,0,1,1] [(0,.arr 70000),(1,.p (.int .i64 x)),(2,.p (.int .i64 y)),(3,.p (.int .i64 n)),(4,.clo (.func 30) [.p (.list 3 (.dat (.pair (.int .i64) (.pair .str .bool)) vl19))] []),(18,.p (.int .i64 vi20)),(19,.p (.int .i64 vi21)),(20,.p (.int .i64 vi24)),(21,.p (.int .i64 vi25)),(22,.p (.int .i64 vi26)),(23,.p (.int .i64 vi28)),(171,.p (.bool vc29))] [(70000,.larr 64 true 3 (.dat foundC vl27))]
noncomputable def BsymG_12 (k F:Nat) (x n:Int) (vl19:List (Int×List UInt8×Bool)) (vi20 vi24 vi30:Int) (vl31:List FoundT):Option Ans:=runB (GsymG k) csymG (kR Tryz.prog [70000] ⟨[],[⟨.fix 70000,70000,.cells []⟩]⟩ [70000] Tryz.f83.results.toList) F [] [1,1,1,1,1,1,1,1,1,1] [(0,.arr 70000),(1,.p (.int .i64 x)),(3,.p (.int .i64 n)),(4,.clo (.func 30) [.p (.list 3 (.dat (.pair (.int .i64) (.pair .str .bool)) vl19))] []),(18,.p (.int .i64 vi20)),(20,.p (.int .i64 vi24)),(24,.p (.int .i64 vi30))] [(70000,.larr 64 true 3 (.dat foundC vl31))]
noncomputable def BsymG_13 (k F:Nat) (n:Int) (vl19:List (Int×List UInt8×Bool)) (vi20 vi30:Int) (vl32:List FoundT):Option Ans:=runB (GsymG k) csymG (kR Tryz.prog [70000] ⟨[],[⟨.fix 70000,70000,.cells []⟩]⟩ [70000] Tryz.f83.results.toList) F [] [1,1,1,1,1,1,1,1,1,1,1] [(0,.arr 70000),(3,.p (.int .i64 n)),(4,.clo (.func 30) [.p (.list 3 (.dat (.pair (.int .i64) (.pair .str .bool)) vl19))] []),(18,.p (.int .i64 vi20)),(24,.p (.int .i64 vi30))] [(70000,.larr 64 true 3 (.dat foundC vl32))]
noncomputable def FsymG (k F:Nat) (x y n:Int) (o:List (Elt ordC)) (l:List FoundT):Option Ans:=runFR (GsymG k) Tryz.f83 ⟨[],[⟨.fix 70000,70000,.cells []⟩]⟩ [70000] F [.arr 70000,.p (.int .i64 x),.p (.int .i64 y),.p (.int .i64 n),.clo (.func 30) [.p (.list 3 (.dat (.pair (.int .i64) (.pair .str .bool)) o))] []] [(70000,.larr 64 true 3 (.dat foundC l))]
theorem BsymG_1_eq (k F f1:Nat) (x:Int) (vl1:List (Int×List UInt8×Bool)) (vi2 vi3:Int) (vl4:List FoundT):BsymG_1 k F (f1+1) x vl1 vi2 vi3 vl4=cond (decide (vi2 < vi3)) (need (i64ok (vi2+vi3)) ((need (0<=(IntKind.i64.wrap ((IntKind.u64.wrap (vi2+vi3)).fdiv 2))/\(IntKind.i64.wrap ((IntKind.u64.wrap (vi2+vi3)).fdiv 2)) < (vl4.length:Int)) (need ((IntKind.i64.wrap ((IntKind.u64.wrap (vi2+vi3)).fdiv 2)).toNat < vl4.length) (need (0<=x/\x < (vl4.length:Int)) (need ((x).toNat < vl4.length) (need (cmpok vl1) (BsymG_2 k F f1 x vl1 vi2 vi3 (IntKind.i64.wrap ((IntKind.u64.wrap (vi2+vi3)).fdiv 2)) (decide ((cmpO vl1 (((vl4.getD ((IntKind.i64.wrap ((IntKind.u64.wrap (vi2+vi3)).fdiv 2)).toNat) ((((0:Int),((0:Int),([],((0:Int),([],([],((0:Int),(0:Int)))))))),([],[])),([],[]))).1),((((vl4.getD ((IntKind.i64.wrap ((IntKind.u64.wrap (vi2+vi3)).fdiv 2)).toNat) ((((0:Int),((0:Int),([],((0:Int),([],([],((0:Int),(0:Int)))))))),([],[])),([],[]))).2).1),(((vl4.getD ((IntKind.i64.wrap ((IntKind.u64.wrap (vi2+vi3)).fdiv 2)).toNat) ((((0:Int),((0:Int),([],((0:Int),([],([],((0:Int),(0:Int)))))))),([],[])),([],[]))).2).2))) (((vl4.getD ((x).toNat) ((((0:Int),((0:Int),([],((0:Int),([],([],((0:Int),(0:Int)))))))),([],[])),([],[]))).1),((((vl4.getD ((x).toNat) ((((0:Int),((0:Int),([],((0:Int),([],([],((0:Int),(0:Int)))))))),([],[])),([],[]))).2).1),(((vl4.getD ((x).toNat) ((((0:Int),((0:Int),([],((0:Int),([],([],((0:Int),(0:Int)))))))),([],[])),([],[]))).2).2)))) < (0:Int))) vl4)))))))) (BsymG_3 k F F vi2 x vl4):=by
 have h:BsymG_1 k F (f1+1) x vl1 vi2 vi3 vl4=cond (decide (vi2 < vi3)) (need (i64ok (vi2+vi3)) (need (0<=(1:Int)) (need (0<=(IntKind.i64.wrap ((IntKind.u64.wrap (vi2+vi3)).fdiv 2))/\(IntKind.i64.wrap ((IntKind.u64.wrap (vi2+vi3)).fdiv 2)) < (vl4.length:Int)) (need ((IntKind.i64.wrap ((IntKind.u64.wrap (vi2+vi3)).fdiv 2)).toNat < vl4.length) (need (0<=x/\x < (vl4.length:Int)) (need ((x).toNat < vl4.length) (need (cmpok vl1) (BsymG_2 k F f1 x vl1 vi2 vi3 (IntKind.i64.wrap ((IntKind.u64.wrap (vi2+vi3)).fdiv 2)) (decide ((cmpO vl1 (((vl4.getD ((IntKind.i64.wrap ((IntKind.u64.wrap (vi2+vi3)).fdiv 2)).toNat) ((((0:Int),((0:Int),([],((0:Int),([],([],((0:Int),(0:Int)))))))),([],[])),([],[]))).1),((((vl4.getD ((IntKind.i64.wrap ((IntKind.u64.wrap (vi2+vi3)).fdiv 2)).toNat) ((((0:Int),((0:Int),([],((0:Int),([],([],((0:Int),(0:Int)))))))),([],[])),([],[]))).2).1),(((vl4.getD ((IntKind.i64.wrap ((IntKind.u64.wrap (vi2+vi3)).fdiv 2)).toNat) ((((0:Int),((0:Int),([],((0:Int),([],([],((0:Int),(0:Int)))))))),([],[])),([],[]))).2).2))) (((vl4.getD ((x).toNat) ((((0:Int),((0:Int),([],((0:Int),([],([],((0:Int),(0:Int)))))))),([],[])),([],[]))).1),((((vl4.getD ((x).toNat) ((((0:Int),((0:Int),([],((0:Int),([],([],((0:Int),(0:Int)))))))),([],[])),([],[]))).2).1),(((vl4.getD ((x).toNat) ((((0:Int),((0:Int),([],((0:Int),([],([],((0:Int),(0:Int)))))))),([],[])),([],[]))).2).2)))) < (0:Int))) vl4)))))))) (BsymG_3 k F F vi2 x vl4):=by kernel_rfl
 rw [h,need_pos (show 0<=(1:Int) from (by decide))]
theorem BsymG_2_eq (k F f1:Nat) (x:Int) (vl1:List (Int×List UInt8×Bool)) (vi2 vi3 vi5:Int) (vc6:Bool) (vl4:List FoundT):BsymG_2 k F f1 x vl1 vi2 vi3 vi5 vc6 vl4=cond (vc6) (need (i64ok (vi5+(1:Int))) (BsymG_1 k F f1 x vl1 (vi5+(1:Int)) vi3 vl4)) (BsymG_1 k F f1 x vl1 vi2 vi5 vl4):=by kernel_rfl
theorem BsymG_3_eq (k F f2:Nat) (vi2 vi7:Int) (vl8:List FoundT):BsymG_3 k F (f2+1) vi2 vi7 vl8=need (i64ok (vi2 - (1:Int))) (cond (decide (vi7 < (vi2 - (1:Int)))) (need (i64ok (vi7+(1:Int))) (need (i64ok (vi7+(1:Int))) (need (0<=(vi7+(1:Int))/\(vi7+(1:Int)) < (vl8.length:Int)) (need ((vi7+(1:Int)).toNat < vl8.length) (need (0<=vi7/\vi7 < (vl8.length:Int)) (need ((vi7).toNat < vl8.length) (need (0<=vi7/\vi7 < (vl8.length:Int)) (need ((vi7).toNat < vl8.length) (need (0<=(vi7+(1:Int))/\(vi7+(1:Int)) < ((vl8.set ((vi7).toNat) (((vl8.getD ((vi7+(1:Int)).toNat) ((((0:Int),((0:Int),([],((0:Int),([],([],((0:Int),(0:Int)))))))),([],[])),([],[]))).1),((((vl8.getD ((vi7+(1:Int)).toNat) ((((0:Int),((0:Int),([],((0:Int),([],([],((0:Int),(0:Int)))))))),([],[])),([],[]))).2).1),(((vl8.getD ((vi7+(1:Int)).toNat) ((((0:Int),((0:Int),([],((0:Int),([],([],((0:Int),(0:Int)))))))),([],[])),([],[]))).2).2)))).length:Int)) (need ((vi7+(1:Int)).toNat < (vl8.set ((vi7).toNat) (((vl8.getD ((vi7+(1:Int)).toNat) ((((0:Int),((0:Int),([],((0:Int),([],([],((0:Int),(0:Int)))))))),([],[])),([],[]))).1),((((vl8.getD ((vi7+(1:Int)).toNat) ((((0:Int),((0:Int),([],((0:Int),([],([],((0:Int),(0:Int)))))))),([],[])),([],[]))).2).1),(((vl8.getD ((vi7+(1:Int)).toNat) ((((0:Int),((0:Int),([],((0:Int),([],([],((0:Int),(0:Int)))))))),([],[])),([],[]))).2).2)))).length) (BsymG_4 k F f2 vi2 vi7 ((vl8.set ((vi7).toNat) (((vl8.getD ((vi7+(1:Int)).toNat) ((((0:Int),((0:Int),([],((0:Int),([],([],((0:Int),(0:Int)))))))),([],[])),([],[]))).1),((((vl8.getD ((vi7+(1:Int)).toNat) ((((0:Int),((0:Int),([],((0:Int),([],([],((0:Int),(0:Int)))))))),([],[])),([],[]))).2).1),(((vl8.getD ((vi7+(1:Int)).toNat) ((((0:Int),((0:Int),([],((0:Int),([],([],((0:Int),(0:Int)))))))),([],[])),([],[]))).2).2)))).set ((vi7+(1:Int)).toNat) (((vl8.getD ((vi7).toNat) ((((0:Int),((0:Int),([],((0:Int),([],([],((0:Int),(0:Int)))))))),([],[])),([],[]))).1),((((vl8.getD ((vi7).toNat) ((((0:Int),((0:Int),([],((0:Int),([],([],((0:Int),(0:Int)))))))),([],[])),([],[]))).2).1),(((vl8.getD ((vi7).toNat) ((((0:Int),((0:Int),([],((0:Int),([],([],((0:Int),(0:Int)))))))),([],[])),([],[]))).2).2))))))))))))))) (some (.tup [],[(70000,.larr 64 true 3 (.dat foundC vl8))]))):=by kernel_rfl
theorem BsymG_4_eq (k F f2:Nat) (vi2 vi7:Int) (vl9:List FoundT):BsymG_4 k F f2 vi2 vi7 vl9=need (i64ok (vi7+(1:Int))) (BsymG_3 k F f2 vi2 (vi7+(1:Int)) vl9):=by kernel_rfl
theorem BsymG_5_eq (k F f3:Nat) (y:Int) (vl10:List (Int×List UInt8×Bool)) (vi11 vi12:Int) (vl13:List FoundT):BsymG_5 k F (f3+1) y vl10 vi11 vi12 vl13=cond (decide (vi11 < vi12)) (need (i64ok (vi11+vi12)) ((need (0<=y/\y < (vl13.length:Int)) (need ((y).toNat < vl13.length) (need (0<=(IntKind.i64.wrap ((IntKind.u64.wrap (vi11+vi12)).fdiv 2))/\(IntKind.i64.wrap ((IntKind.u64.wrap (vi11+vi12)).fdiv 2)) < (vl13.length:Int)) (need ((IntKind.i64.wrap ((IntKind.u64.wrap (vi11+vi12)).fdiv 2)).toNat < vl13.length) (need (cmpok vl10) (BsymG_6 k F f3 y vl10 vi11 vi12 (IntKind.i64.wrap ((IntKind.u64.wrap (vi11+vi12)).fdiv 2)) (!(decide ((cmpO vl10 (((vl13.getD ((y).toNat) ((((0:Int),((0:Int),([],((0:Int),([],([],((0:Int),(0:Int)))))))),([],[])),([],[]))).1),((((vl13.getD ((y).toNat) ((((0:Int),((0:Int),([],((0:Int),([],([],((0:Int),(0:Int)))))))),([],[])),([],[]))).2).1),(((vl13.getD ((y).toNat) ((((0:Int),((0:Int),([],((0:Int),([],([],((0:Int),(0:Int)))))))),([],[])),([],[]))).2).2))) (((vl13.getD ((IntKind.i64.wrap ((IntKind.u64.wrap (vi11+vi12)).fdiv 2)).toNat) ((((0:Int),((0:Int),([],((0:Int),([],([],((0:Int),(0:Int)))))))),([],[])),([],[]))).1),((((vl13.getD ((IntKind.i64.wrap ((IntKind.u64.wrap (vi11+vi12)).fdiv 2)).toNat) ((((0:Int),((0:Int),([],((0:Int),([],([],((0:Int),(0:Int)))))))),([],[])),([],[]))).2).1),(((vl13.getD ((IntKind.i64.wrap ((IntKind.u64.wrap (vi11+vi12)).fdiv 2)).toNat) ((((0:Int),((0:Int),([],((0:Int),([],([],((0:Int),(0:Int)))))))),([],[])),([],[]))).2).2)))) < (0:Int)))) vl13)))))))) (BsymG_7 k F F vi11 y vl13):=by
 have h:BsymG_5 k F (f3+1) y vl10 vi11 vi12 vl13=cond (decide (vi11 < vi12)) (need (i64ok (vi11+vi12)) (need (0<=(1:Int)) (need (0<=y/\y < (vl13.length:Int)) (need ((y).toNat < vl13.length) (need (0<=(IntKind.i64.wrap ((IntKind.u64.wrap (vi11+vi12)).fdiv 2))/\(IntKind.i64.wrap ((IntKind.u64.wrap (vi11+vi12)).fdiv 2)) < (vl13.length:Int)) (need ((IntKind.i64.wrap ((IntKind.u64.wrap (vi11+vi12)).fdiv 2)).toNat < vl13.length) (need (cmpok vl10) (BsymG_6 k F f3 y vl10 vi11 vi12 (IntKind.i64.wrap ((IntKind.u64.wrap (vi11+vi12)).fdiv 2)) (!(decide ((cmpO vl10 (((vl13.getD ((y).toNat) ((((0:Int),((0:Int),([],((0:Int),([],([],((0:Int),(0:Int)))))))),([],[])),([],[]))).1),((((vl13.getD ((y).toNat) ((((0:Int),((0:Int),([],((0:Int),([],([],((0:Int),(0:Int)))))))),([],[])),([],[]))).2).1),(((vl13.getD ((y).toNat) ((((0:Int),((0:Int),([],((0:Int),([],([],((0:Int),(0:Int)))))))),([],[])),([],[]))).2).2))) (((vl13.getD ((IntKind.i64.wrap ((IntKind.u64.wrap (vi11+vi12)).fdiv 2)).toNat) ((((0:Int),((0:Int),([],((0:Int),([],([],((0:Int),(0:Int)))))))),([],[])),([],[]))).1),((((vl13.getD ((IntKind.i64.wrap ((IntKind.u64.wrap (vi11+vi12)).fdiv 2)).toNat) ((((0:Int),((0:Int),([],((0:Int),([],([],((0:Int),(0:Int)))))))),([],[])),([],[]))).2).1),(((vl13.getD ((IntKind.i64.wrap ((IntKind.u64.wrap (vi11+vi12)).fdiv 2)).toNat) ((((0:Int),((0:Int),([],((0:Int),([],([],((0:Int),(0:Int)))))))),([],[])),([],[]))).2).2)))) < (0:Int)))) vl13)))))))) (BsymG_7 k F F vi11 y vl13):=by kernel_rfl
 rw [h,need_pos (show 0<=(1:Int) from (by decide))]
theorem BsymG_6_eq (k F f3:Nat) (y:Int) (vl10:List (Int×List UInt8×Bool)) (vi11 vi12 vi14:Int) (vc15:Bool) (vl13:List FoundT):BsymG_6 k F f3 y vl10 vi11 vi12 vi14 vc15 vl13=cond (vc15) (need (i64ok (vi14+(1:Int))) (BsymG_5 k F f3 y vl10 (vi14+(1:Int)) vi12 vl13)) (BsymG_5 k F f3 y vl10 vi11 vi14 vl13):=by kernel_rfl
theorem BsymG_7_eq (k F f4:Nat) (vi11 vi16:Int) (vl17:List FoundT):BsymG_7 k F (f4+1) vi11 vi16 vl17=cond (decide (vi16 > vi11)) (need (i64ok (vi16 - (1:Int))) (need (i64ok (vi16 - (1:Int))) (need (0<=(vi16 - (1:Int))/\(vi16 - (1:Int)) < (vl17.length:Int)) (need ((vi16 - (1:Int)).toNat < vl17.length) (need (0<=vi16/\vi16 < (vl17.length:Int)) (need ((vi16).toNat < vl17.length) (need (0<=vi16/\vi16 < (vl17.length:Int)) (need ((vi16).toNat < vl17.length) (need (0<=(vi16 - (1:Int))/\(vi16 - (1:Int)) < ((vl17.set ((vi16).toNat) (((vl17.getD ((vi16 - (1:Int)).toNat) ((((0:Int),((0:Int),([],((0:Int),([],([],((0:Int),(0:Int)))))))),([],[])),([],[]))).1),((((vl17.getD ((vi16 - (1:Int)).toNat) ((((0:Int),((0:Int),([],((0:Int),([],([],((0:Int),(0:Int)))))))),([],[])),([],[]))).2).1),(((vl17.getD ((vi16 - (1:Int)).toNat) ((((0:Int),((0:Int),([],((0:Int),([],([],((0:Int),(0:Int)))))))),([],[])),([],[]))).2).2)))).length:Int)) (need ((vi16 - (1:Int)).toNat < (vl17.set ((vi16).toNat) (((vl17.getD ((vi16 - (1:Int)).toNat) ((((0:Int),((0:Int),([],((0:Int),([],([],((0:Int),(0:Int)))))))),([],[])),([],[]))).1),((((vl17.getD ((vi16 - (1:Int)).toNat) ((((0:Int),((0:Int),([],((0:Int),([],([],((0:Int),(0:Int)))))))),([],[])),([],[]))).2).1),(((vl17.getD ((vi16 - (1:Int)).toNat) ((((0:Int),((0:Int),([],((0:Int),([],([],((0:Int),(0:Int)))))))),([],[])),([],[]))).2).2)))).length) (BsymG_8 k F f4 vi11 vi16 ((vl17.set ((vi16).toNat) (((vl17.getD ((vi16 - (1:Int)).toNat) ((((0:Int),((0:Int),([],((0:Int),([],([],((0:Int),(0:Int)))))))),([],[])),([],[]))).1),((((vl17.getD ((vi16 - (1:Int)).toNat) ((((0:Int),((0:Int),([],((0:Int),([],([],((0:Int),(0:Int)))))))),([],[])),([],[]))).2).1),(((vl17.getD ((vi16 - (1:Int)).toNat) ((((0:Int),((0:Int),([],((0:Int),([],([],((0:Int),(0:Int)))))))),([],[])),([],[]))).2).2)))).set ((vi16 - (1:Int)).toNat) (((vl17.getD ((vi16).toNat) ((((0:Int),((0:Int),([],((0:Int),([],([],((0:Int),(0:Int)))))))),([],[])),([],[]))).1),((((vl17.getD ((vi16).toNat) ((((0:Int),((0:Int),([],((0:Int),([],([],((0:Int),(0:Int)))))))),([],[])),([],[]))).2).1),(((vl17.getD ((vi16).toNat) ((((0:Int),((0:Int),([],((0:Int),([],([],((0:Int),(0:Int)))))))),([],[])),([],[]))).2).2))))))))))))))) (some (.tup [],[(70000,.larr 64 true 3 (.dat foundC vl17))])):=by kernel_rfl
theorem BsymG_8_eq (k F f4:Nat) (vi11 vi16:Int) (vl18:List FoundT):BsymG_8 k F f4 vi11 vi16 vl18=need (i64ok (vi16 - (1:Int))) (BsymG_7 k F f4 vi11 (vi16 - (1:Int)) vl18):=by kernel_rfl
theorem BsymG_9_eq (k F:Nat) (x y n:Int) (vl19:List (Int×List UInt8×Bool)) (vi20 vi21 vi22 vi23:Int) (l:List FoundT):BsymG_9 k F x y n vl19 vi20 vi21 vi22 vi23 l=need (i64ok (vi21 - (1:Int))) (BsymG_10 k F F x y n vl19 vi20 vi21 vi22 vi23 (vi21 - (1:Int)) l):=by kernel_rfl
theorem BsymG_10_eq (k F f5:Nat) (x y n:Int) (vl19:List (Int×List UInt8×Bool)) (vi20 vi21 vi24 vi25 vi26:Int) (vl27:List FoundT):BsymG_10 k F (f5+1) x y n vl19 vi20 vi21 vi24 vi25 vi26 vl27=cond (decide (vi24 < vi25)) (need (i64ok (vi24+vi25)) ((need (i64ok (vi26 - (IntKind.i64.wrap ((IntKind.u64.wrap (vi24+vi25)).fdiv 2)))) (need (0<=(vi26 - (IntKind.i64.wrap ((IntKind.u64.wrap (vi24+vi25)).fdiv 2)))/\(vi26 - (IntKind.i64.wrap ((IntKind.u64.wrap (vi24+vi25)).fdiv 2))) < (vl27.length:Int)) (need ((vi26 - (IntKind.i64.wrap ((IntKind.u64.wrap (vi24+vi25)).fdiv 2))).toNat < vl27.length) (need (0<=(IntKind.i64.wrap ((IntKind.u64.wrap (vi24+vi25)).fdiv 2))/\(IntKind.i64.wrap ((IntKind.u64.wrap (vi24+vi25)).fdiv 2)) < (vl27.length:Int)) (need ((IntKind.i64.wrap ((IntKind.u64.wrap (vi24+vi25)).fdiv 2)).toNat < vl27.length) (need (cmpok vl19) (BsymG_11 k F f5 x y n vl19 vi20 vi21 vi24 vi25 vi26 (IntKind.i64.wrap ((IntKind.u64.wrap (vi24+vi25)).fdiv 2)) (!(decide ((cmpO vl19 (((vl27.getD ((vi26 - (IntKind.i64.wrap ((IntKind.u64.wrap (vi24+vi25)).fdiv 2))).toNat) ((((0:Int),((0:Int),([],((0:Int),([],([],((0:Int),(0:Int)))))))),([],[])),([],[]))).1),((((vl27.getD ((vi26 - (IntKind.i64.wrap ((IntKind.u64.wrap (vi24+vi25)).fdiv 2))).toNat) ((((0:Int),((0:Int),([],((0:Int),([],([],((0:Int),(0:Int)))))))),([],[])),([],[]))).2).1),(((vl27.getD ((vi26 - (IntKind.i64.wrap ((IntKind.u64.wrap (vi24+vi25)).fdiv 2))).toNat) ((((0:Int),((0:Int),([],((0:Int),([],([],((0:Int),(0:Int)))))))),([],[])),([],[]))).2).2))) (((vl27.getD ((IntKind.i64.wrap ((IntKind.u64.wrap (vi24+vi25)).fdiv 2)).toNat) ((((0:Int),((0:Int),([],((0:Int),([],([],((0:Int),(0:Int)))))))),([],[])),([],[]))).1),((((vl27.getD ((IntKind.i64.wrap ((IntKind.u64.wrap (vi24+vi25)).fdiv 2)).toNat) ((((0:Int),((0:Int),([],((0:Int),([],([],((0:Int),(0:Int)))))))),([],[])),([],[]))).2).1),(((vl27.getD ((IntKind.i64.wrap ((IntKind.u64.wrap (vi24+vi25)).fdiv 2)).toNat) ((((0:Int),((0:Int),([],((0:Int),([],([],((0:Int),(0:Int)))))))),([],[])),([],[]))).2).2)))) < (0:Int)))) vl27))))))))) (need (i64ok (vi21 - vi24)) ((((cond ((decide (vi24 < y))&&(decide (y < (vi21 - vi24)))) (need (rotok vi24 y (vi21 - vi24) vl27) (BsymG_12 k F x n vl19 vi20 vi24 (vi21 - vi24) (rotR vi24 y (vi21 - vi24) vl27))) (BsymG_12 k F x n vl19 vi20 vi24 (vi21 - vi24) vl27)))))):=by
 have h:BsymG_10 k F (f5+1) x y n vl19 vi20 vi21 vi24 vi25 vi26 vl27=cond (decide (vi24 < vi25)) (need (i64ok (vi24+vi25)) (need (0<=(1:Int)) (need (i64ok (vi26 - (IntKind.i64.wrap ((IntKind.u64.wrap (vi24+vi25)).fdiv 2)))) (need (0<=(vi26 - (IntKind.i64.wrap ((IntKind.u64.wrap (vi24+vi25)).fdiv 2)))/\(vi26 - (IntKind.i64.wrap ((IntKind.u64.wrap (vi24+vi25)).fdiv 2))) < (vl27.length:Int)) (need ((vi26 - (IntKind.i64.wrap ((IntKind.u64.wrap (vi24+vi25)).fdiv 2))).toNat < vl27.length) (need (0<=(IntKind.i64.wrap ((IntKind.u64.wrap (vi24+vi25)).fdiv 2))/\(IntKind.i64.wrap ((IntKind.u64.wrap (vi24+vi25)).fdiv 2)) < (vl27.length:Int)) (need ((IntKind.i64.wrap ((IntKind.u64.wrap (vi24+vi25)).fdiv 2)).toNat < vl27.length) (need (cmpok vl19) (BsymG_11 k F f5 x y n vl19 vi20 vi21 vi24 vi25 vi26 (IntKind.i64.wrap ((IntKind.u64.wrap (vi24+vi25)).fdiv 2)) (!(decide ((cmpO vl19 (((vl27.getD ((vi26 - (IntKind.i64.wrap ((IntKind.u64.wrap (vi24+vi25)).fdiv 2))).toNat) ((((0:Int),((0:Int),([],((0:Int),([],([],((0:Int),(0:Int)))))))),([],[])),([],[]))).1),((((vl27.getD ((vi26 - (IntKind.i64.wrap ((IntKind.u64.wrap (vi24+vi25)).fdiv 2))).toNat) ((((0:Int),((0:Int),([],((0:Int),([],([],((0:Int),(0:Int)))))))),([],[])),([],[]))).2).1),(((vl27.getD ((vi26 - (IntKind.i64.wrap ((IntKind.u64.wrap (vi24+vi25)).fdiv 2))).toNat) ((((0:Int),((0:Int),([],((0:Int),([],([],((0:Int),(0:Int)))))))),([],[])),([],[]))).2).2))) (((vl27.getD ((IntKind.i64.wrap ((IntKind.u64.wrap (vi24+vi25)).fdiv 2)).toNat) ((((0:Int),((0:Int),([],((0:Int),([],([],((0:Int),(0:Int)))))))),([],[])),([],[]))).1),((((vl27.getD ((IntKind.i64.wrap ((IntKind.u64.wrap (vi24+vi25)).fdiv 2)).toNat) ((((0:Int),((0:Int),([],((0:Int),([],([],((0:Int),(0:Int)))))))),([],[])),([],[]))).2).1),(((vl27.getD ((IntKind.i64.wrap ((IntKind.u64.wrap (vi24+vi25)).fdiv 2)).toNat) ((((0:Int),((0:Int),([],((0:Int),([],([],((0:Int),(0:Int)))))))),([],[])),([],[]))).2).2)))) < (0:Int)))) vl27))))))))) (need (i64ok (vi21 - vi24)) (need ((decide (vi24 < y))=true->(decide (vi24 < y))=true) (need ((decide (vi24 < y))=true->(decide (vi24 < y))=true) (need ((decide (vi24 < y))=true->(decide (vi24 < y))=true) (cond ((decide (vi24 < y))&&(decide (y < (vi21 - vi24)))) (need (rotok vi24 y (vi21 - vi24) vl27) (BsymG_12 k F x n vl19 vi20 vi24 (vi21 - vi24) (rotR vi24 y (vi21 - vi24) vl27))) (BsymG_12 k F x n vl19 vi20 vi24 (vi21 - vi24) vl27)))))):=by kernel_rfl
 rw [h,need_pos (show 0<=(1:Int) from (by decide)),need_pos (show (decide (vi24 < y))=true->(decide (vi24 < y))=true from (fun q0=>q0)),need_pos (show (decide (vi24 < y))=true->(decide (vi24 < y))=true from (fun q0=>q0)),need_pos (show (decide (vi24 < y))=true->(decide (vi24 < y))=true from (fun q0=>q0))]
theorem BsymG_11_eq (k F f5:Nat) (x y n:Int) (vl19:List (Int×List UInt8×Bool)) (vi20 vi21 vi24 vi25 vi26 vi28:Int) (vc29:Bool) (vl27:List FoundT):BsymG_11 k F f5 x y n vl19 vi20 vi21 vi24 vi25 vi26 vi28 vc29 vl27=cond (vc29) (need (i64ok (vi28+(1:Int))) (BsymG_10 k F f5 x y n vl19 vi20 vi21 (vi28+(1:Int)) vi25 vi26 vl27)) (BsymG_10 k F f5 x y n vl19 vi20 vi21 vi24 vi28 vi26 vl27):=by kernel_rfl
theorem BsymG_12_eq (k F:Nat) (x n:Int) (vl19:List (Int×List UInt8×Bool)) (vi20 vi24 vi30:Int) (vl31:List FoundT):BsymG_12 k F x n vl19 vi20 vi24 vi30 vl31=(((cond ((decide (x < vi24))&&(decide (vi24 < vi20))) (need (symok k vl19 x vi24 vi20 vl31) (BsymG_13 k F n vl19 vi20 vi30 (sortR vl19 x vi20 vl31))) (BsymG_13 k F n vl19 vi20 vi30 vl31)))):=by
 have h:BsymG_12 k F x n vl19 vi20 vi24 vi30 vl31=need ((decide (x < vi24))=true->(decide (x < vi24))=true) (need ((decide (x < vi24))=true->(decide (x < vi24))=true) (need ((decide (x < vi24))=true->(decide (x < vi24))=true) (cond ((decide (x < vi24))&&(decide (vi24 < vi20))) (need (symok k vl19 x vi24 vi20 vl31) (BsymG_13 k F n vl19 vi20 vi30 (sortR vl19 x vi20 vl31))) (BsymG_13 k F n vl19 vi20 vi30 vl31)))):=by kernel_rfl
 rw [h,need_pos (show (decide (x < vi24))=true->(decide (x < vi24))=true from (fun q0=>q0)),need_pos (show (decide (x < vi24))=true->(decide (x < vi24))=true from (fun q0=>q0)),need_pos (show (decide (x < vi24))=true->(decide (x < vi24))=true from (fun q0=>q0))]
theorem BsymG_13_eq (k F:Nat) (n:Int) (vl19:List (Int×List UInt8×Bool)) (vi20 vi30:Int) (vl32:List FoundT):BsymG_13 k F n vl19 vi20 vi30 vl32=(((cond ((decide (vi20 < vi30))&&(decide (vi30 < n))) (need (symok k vl19 vi20 vi30 n vl32) (some (.tup [],[(70000,.larr 64 true 3 (.dat foundC (sortR vl19 vi20 n vl32)))]))) (some (.tup [],[(70000,.larr 64 true 3 (.dat foundC vl32))]))))):=by
 have h:BsymG_13 k F n vl19 vi20 vi30 vl32=need ((decide (vi20 < vi30))=true->(decide (vi20 < vi30))=true) (need ((decide (vi20 < vi30))=true->(decide (vi20 < vi30))=true) (need ((decide (vi20 < vi30))=true->(decide (vi20 < vi30))=true) (cond ((decide (vi20 < vi30))&&(decide (vi30 < n))) (need (symok k vl19 vi20 vi30 n vl32) (some (.tup [],[(70000,.larr 64 true 3 (.dat foundC (sortR vl19 vi20 n vl32)))]))) (some (.tup [],[(70000,.larr 64 true 3 (.dat foundC vl32))]))))):=by kernel_rfl
 rw [h,need_pos (show (decide (vi20 < vi30))=true->(decide (vi20 < vi30))=true from (fun q0=>q0)),need_pos (show (decide (vi20 < vi30))=true->(decide (vi20 < vi30))=true from (fun q0=>q0)),need_pos (show (decide (vi20 < vi30))=true->(decide (vi20 < vi30))=true from (fun q0=>q0))]
theorem FsymG_eq (k F:Nat) (x y n:Int) (o:List (Elt ordC)) (l:List FoundT):FsymG k F x y n o l=need (i64ok (y - x)) (cond ((y - x)==(1:Int)) (BsymG_1 k F F x o y n l) (need (i64ok (n - y)) (cond ((n - y)==(1:Int)) (BsymG_5 k F F y o x y l) (need (i64ok (x+n)) ((need (i64ok ((IntKind.i64.wrap ((IntKind.u64.wrap (x+n)).fdiv 2))+y)) (cond (decide (y > (IntKind.i64.wrap ((IntKind.u64.wrap (x+n)).fdiv 2)))) (need (i64ok (((IntKind.i64.wrap ((IntKind.u64.wrap (x+n)).fdiv 2))+y) - n)) (BsymG_9 k F x y n o (IntKind.i64.wrap ((IntKind.u64.wrap (x+n)).fdiv 2)) ((IntKind.i64.wrap ((IntKind.u64.wrap (x+n)).fdiv 2))+y) (((IntKind.i64.wrap ((IntKind.u64.wrap (x+n)).fdiv 2))+y) - n) (IntKind.i64.wrap ((IntKind.u64.wrap (x+n)).fdiv 2)) l)) (BsymG_9 k F x y n o (IntKind.i64.wrap ((IntKind.u64.wrap (x+n)).fdiv 2)) ((IntKind.i64.wrap ((IntKind.u64.wrap (x+n)).fdiv 2))+y) x y l)))))))):=by
 have h:FsymG k F x y n o l=need (i64ok (y - x)) (cond ((y - x)==(1:Int)) (BsymG_1 k F F x o y n l) (need (i64ok (n - y)) (cond ((n - y)==(1:Int)) (BsymG_5 k F F y o x y l) (need (i64ok (x+n)) (need (0<=(1:Int)) (need (i64ok ((IntKind.i64.wrap ((IntKind.u64.wrap (x+n)).fdiv 2))+y)) (cond (decide (y > (IntKind.i64.wrap ((IntKind.u64.wrap (x+n)).fdiv 2)))) (need (i64ok (((IntKind.i64.wrap ((IntKind.u64.wrap (x+n)).fdiv 2))+y) - n)) (BsymG_9 k F x y n o (IntKind.i64.wrap ((IntKind.u64.wrap (x+n)).fdiv 2)) ((IntKind.i64.wrap ((IntKind.u64.wrap (x+n)).fdiv 2))+y) (((IntKind.i64.wrap ((IntKind.u64.wrap (x+n)).fdiv 2))+y) - n) (IntKind.i64.wrap ((IntKind.u64.wrap (x+n)).fdiv 2)) l)) (BsymG_9 k F x y n o (IntKind.i64.wrap ((IntKind.u64.wrap (x+n)).fdiv 2)) ((IntKind.i64.wrap ((IntKind.u64.wrap (x+n)).fdiv 2))+y) x y l)))))))):=by kernel_rfl
 rw [h,need_pos (show 0<=(1:Int) from (by decide))]
theorem fn_symG (k:Nat) (hrec:SpecROk Tryz.prog 83 (sp_symG k)) (F:Nat) (x y n:Int) (o:List (Elt ordC)) (l:List FoundT) (r:AV) (os:List (Nat×AObj)) (h:(∃ γ M w vs,ARels γ M [.arr 70000,.p (.int .i64 x),.p (.int .i64 y),.p (.int .i64 n),.clo (.func 30) [.p (.list 3 (.dat (.pair (.int .i64) (.pair .str .bool)) o))] []] vs/\Objs γ M w (fun i=>lookO i [(70000,.larr 64 true 3 (.dat foundC l))]) (fun b=>b < w.heap.size))->FsymG k F x y n o l=some (r,os)):FnR Tryz.prog 83 [.arr 70000,.p (.int .i64 x),.p (.int .i64 y),.p (.int .i64 n),.clo (.func 30) [.p (.list 3 (.dat (.pair (.int .i64) (.pair .str .bool)) o))] []] [(70000,.larr 64 true 3 (.dat foundC l))] [70000] r os:=
 FnR_run (GsymG k) ⟨[],[⟨.fix 70000,70000,.cells []⟩]⟩ [70000] F rfl (EnvOk_mk (l:=[(30,sp_compO)]) ⟨ok_compO.any,trivial⟩) (EnvROk_mk (l:=[(83,sp_symG k),(118,sp_rotG)]) ⟨hrec,ok_rotG,trivial⟩) (Checked.mixed Tryz.checked) (fn:=Tryz.f83) (by kernel_rfl) (by kernel_rfl) rfl h
theorem and_f {p q:Prop} [Decidable p] [Decidable q] (h:¬ (p/\q)):(decide p&&decide q)=false:=by
 rw [<-Bool.decide_and]; exact decide_eq_false h
abbrev outF (l:List FoundT):Option (AV×List (Nat×AObj)):=some (.tup [],[(70000,.larr 64 true 3 (.dat foundC l))])
theorem sym_3 (k F:Nat) (Z:List FoundT) (x:FoundT) (i:Int):∀ (W:List FoundT) (f2:Nat) (P:List FoundT),W.length < f2->i=((P.length+W.length+1:Nat):Int)->P.length+(W.length+1+Z.length)<=1000->
 BsymG_3 k F f2 i (P.length:Int) (P++(x::(W++Z)))=outF (P++(W++x::Z))
 | [],f2,P,hf,hi,hl=>by
  obtain ⟨f2,rfl⟩:∃ k,f2=k+1:=⟨f2 - 1,by omega⟩
  rw [BsymG_3_eq]
  exact need_mk (by unfold i64ok; rw [hi]; omega) (cond_f (decide_eq_false (by rw [hi]; simp)) rfl)
 | y::W,f2,P,hf,hi,hl=>by
  obtain ⟨f2,rfl⟩:∃ k,f2=k+1:=⟨f2 - 1,by omega⟩
  rw [List.length_cons] at hf hi hl
  have el:(P++(x::(y::W++Z))).length=P.length+(W.length+2+Z.length):=by simp; omega
  have t1:((P.length:Int)+(1:Int)).toNat=P.length+1:=by omega
  have g0:∀ d,(P++(x::(y::W++Z))).getD P.length d=x:=fun d=>getD_midF rfl d
  have g1:∀ d,(P++(x::(y::W++Z))).getD (P.length+1) d=y:=fun d=>by
   rw [show P++(x::(y::W++Z))=(P++[x])++y::(W++Z) by simp]; exact getD_midF (by simp) d
  rw [BsymG_3_eq,t1,Int.toNat_natCast]
  simp only [g0,g1,Prod.eta,List.length_set]
  refine need_mk (by unfold i64ok; rw [hi]; omega) (cond_t (decide_eq_true (by rw [hi]; omega)) (need_mk (by unfold i64ok; omega) (need_mk (by unfold i64ok; omega) ?_)))
  iterate 4 refine need_mk (by rw [el]; omega) (need_mk (by rw [el]; omega) ?_)
  rw [BsymG_4_eq]
  refine need_mk (by unfold i64ok; omega) ?_
  rw [set_midF rfl,show P++y::(y::W++Z)=(P++[y])++y::(W++Z) by simp,set_midF (by simp)]
  have ih:=sym_3 k F Z x i W f2 (P++[y]) (by omega) (by rw [hi]; simp; omega) (by simp; omega)
  rw [show (((P++[y]).length:Nat):Int)=(P.length:Int)+1 by simp] at ih
  rw [ih]
  simp
theorem sym_1 (k F:Nat) (dn:Bool) (P W Q:List FoundT) (x:FoundT) (hF:1001<=F) (hs:W.Pairwise (LtF dn)) (hid:IdsF (x::W)) (hl:P.length+(1+W.length+Q.length)<=1000):
 BsymG_1 k F F (P.length:Int) (ordD dn) ((P.length+1:Nat):Int) ((P.length+1+W.length:Nat):Int) (P++(x::(W++Q)))=outF (P++(msort dn (x::W)++Q)):=by
 have eL:P++(x::(W++Q))=(P++[x])++(W++Q):=by simp
 have el:(P++(x::(W++Q))).length=P.length+(1+W.length+Q.length):=by simp; omega
 have pl:(P++[x]).length=P.length+1:=by simp
 have g0:∀ d,(P++(x::(W++Q))).getD P.length d=x:=fun d=>getD_midF rfl d
 obtain ⟨s,s1,s2,s3,s4,s5⟩:=bsearchF (fun f i j=>BsymG_1 k F f (P.length:Int) (ordD dn) i j (P++(x::(W++Q)))) (fun i=>BsymG_3 k F F i (P.length:Int) (P++(x::(W++Q))))
  (fun h=>decide (cmpD dn ((P++(x::(W++Q))).getD h dF) x < 0)) (P.length+1) (P.length+1+W.length)
  (fun f i j h1 h2 h3=>by
   show BsymG_1 k F (f+1) _ _ _ _ _=_
   rw [BsymG_1_eq,half_eq2 i j (by omega),Int.toNat_natCast,Int.toNat_natCast]
   simp only [g0,Prod.eta]
   refine cond_t (decide_eq_true (by omega)) (need_mk (by unfold i64ok; omega) (need_mk (by rw [el]; omega) (need_mk (by rw [el]; omega) (need_mk (by rw [el]; omega) (need_mk (by rw [el]; omega) (need_mk ⟨dn,rfl⟩ ?_))))))
   rw [BsymG_2_eq,cmpO_dec]
   cases decide (cmpD dn ((P++(x::(W++Q))).getD ((i+j) / 2) dF) x < 0) with
   | true=>exact need_mk (by unfold i64ok; omega) rfl
   | false=>rfl)
  (fun f i h1 h2=>by
   show BsymG_1 k F (f+1) _ _ _ _ _=_
   rw [BsymG_1_eq]
   exact cond_f (decide_eq_false (by omega)) rfl)
  (fun u v h1 h2 h3 hv=>by
   rw [decide_eq_true_eq,cmpD_lt] at hv ⊢
   by_cases he:u=v
   .rw [he]; exact hv
   .refine LtF.trans ?_ hv
    rw [eL]
    exact srt_idx hs (by omega) (by omega) (by omega) _) W.length F (P.length+1) (P.length+1+W.length) (by omega) (by omega) (by omega) (by omega) (by omega) (fun h q1 q2=>by omega) (fun h q1 q2=>by omega)
 have s3:BsymG_1 k F F (P.length:Int) (ordD dn) ((P.length+1:Nat):Int) ((P.length+1+W.length:Nat):Int) (P++(x::(W++Q)))=BsymG_3 k F F (s:Int) (P.length:Int) (P++(x::(W++Q))):=s3
 rw [s3]
 obtain ⟨W1,W2,rfl,hW1⟩:∃ W1 W2,W=W1++W2/\W1.length=s - (P.length+1):=⟨W.take (s - (P.length+1)),W.drop (s - (P.length+1)),by simp,by rw [List.length_take]; omega⟩
 have wl:(W1++W2).length=W1.length+W2.length:=by simp
 rw [wl] at hl s2 s5
 have q1:∀ z ∈ W1,LtF dn z x:=fun z hz=>by
  obtain ⟨u,u1,u2,u3⟩:=mem_idx (P:=P++[x]) (Q:=W2++Q) hz
  have:=s4 u (by omega) (by omega)
  rw [eL,show (P++[x])++(W1++W2++Q)=(P++[x])++(W1++(W2++Q)) by simp,u3,decide_eq_true_eq,cmpD_lt] at this
  exact this
 have q2:∀ z ∈ W2,LtF dn x z:=fun z hz=>by
  obtain ⟨u,u1,u2,u3⟩:=mem_idx (P:=(P++[x])++W1) (Q:=Q) hz
  rw [List.length_append] at u1 u2
  have:=s5 u (by omega) (by omega)
  rw [eL,show (P++[x])++(W1++W2++Q)=((P++[x])++W1)++(W2++Q) by simp,u3,decide_eq_false_iff_not,cmpD_lt] at this
  exact LtF.of_not this fun e=>(List.pairwise_cons.1 hid).1 z (by simp [hz]) e.symm
 have hm:msort dn (x::(W1++W2))=W1++x::W2:=by
  refine msort_of List.perm_middle ?_
  rw [List.pairwise_append] at hs ⊢
  refine ⟨hs.1,List.pairwise_cons.2 ⟨q2,hs.2.1⟩,fun a ha z hz=>?_⟩
  rcases List.mem_cons.1 hz with rfl | hz
  .exact q1 a ha
  .exact (q1 a ha).trans (q2 z hz)
 have:=sym_3 k F (W2++Q) x (s:Int) W1 F P (by omega) (by omega) (by simp; omega)
 rw [hm,show P++(x::(W1++W2++Q))=P++(x::(W1++(W2++Q))) by simp,this]
 simp
theorem sym_7 (k F:Nat) (P:List FoundT) (x:FoundT):∀ (n f4:Nat) (W Z:List FoundT),W.length=n->n < f4->P.length+(W.length+1+Z.length)<=1000->
 BsymG_7 k F f4 (P.length:Int) ((P.length+W.length:Nat):Int) (P++(W++x::Z))=outF (P++(x::(W++Z))):=by
 intro n
 induction n with
 | zero=>
  intro f4 W Z hW hf hl
  obtain ⟨f4,rfl⟩:∃ k,f4=k+1:=⟨f4 - 1,by omega⟩
  have:W=[]:=List.eq_nil_of_length_eq_zero hW
  subst this
  rw [BsymG_7_eq]
  exact cond_f (decide_eq_false (by simp)) rfl
 | succ n ih=>
  intro f4 W Z hW hf hl
  obtain ⟨f4,rfl⟩:∃ k,f4=k+1:=⟨f4 - 1,by omega⟩
  obtain ⟨W,y,rfl⟩:∃ A' y,W=A'++[y]:=by
   rcases List.eq_nil_or_concat W with rfl | ⟨A',y,rfl⟩
   .simp at hW
   .exact ⟨A',y,List.concat_eq_append⟩
  have hW:W.length=n:=by simpa using hW
  have hl:P.length+(W.length+1+1+Z.length)<=1000:=by simpa using hl
  have e0:P++(W++[y]++x::Z)=(P++W)++y::x::Z:=by simp
  have e1:P++(W++[y]++x::Z)=(P++(W++[y]))++x::Z:=by simp
  have el:(P++(W++[y]++x::Z)).length=P.length+W.length+2+Z.length:=by simp; omega
  have tn:(((P.length+(W++[y]).length:Nat):Int)).toNat=P.length+W.length+1:=by simp; omega
  have tm:(((P.length+(W++[y]).length:Nat):Int) - (1:Int)).toNat=P.length+W.length:=by simp; omega
  have tj:((P.length+(W++[y]).length:Nat):Int)=((P.length+W.length:Nat):Int)+1:=by simp; omega
  have g1:∀ d,(P++(W++[y]++x::Z)).getD (P.length+W.length+1) d=x:=fun d=>by rw [e1]; exact getD_midF (by simp; omega) d
  have g0:∀ d,(P++(W++[y]++x::Z)).getD (P.length+W.length) d=y:=fun d=>by rw [e0]; exact getD_midF (by simp) d
  rw [BsymG_7_eq,tn,tm]
  simp only [g0,g1,Prod.eta,List.length_set]
  refine cond_t (decide_eq_true (by omega)) (need_mk (by unfold i64ok; omega) (need_mk (by unfold i64ok; omega) ?_))
  iterate 4 refine need_mk (by rw [el]; omega) (need_mk (by rw [el]; omega) ?_)
  rw [BsymG_8_eq]
  refine need_mk (by unfold i64ok; omega) ?_
  rw [e1,set_midF (by simp; omega),show P++(W++[y])++y::Z=(P++W)++y::(y::Z) by simp,set_midF (by simp),tj,Int.add_sub_cancel,List.append_assoc P W]
  rw [ih f4 W (y::Z) hW (by omega) (by simp; omega)]
  simp
theorem sym_5 (k F:Nat) (dn:Bool) (P W Q:List FoundT) (x:FoundT) (hF:1001<=F) (hs:W.Pairwise (LtF dn)) (hid:∀ z ∈ W,idF z≠idF x) (hl:P.length+(W.length+(1+Q.length))<=1000):
 BsymG_5 k F F ((P.length+W.length:Nat):Int) (ordD dn) (P.length:Int) ((P.length+W.length:Nat):Int) (P++(W++x::Q))=outF (P++(msort dn (W++[x])++Q)):=by
 have el:(P++(W++x::Q)).length=P.length+(W.length+(1+Q.length)):=by simp; omega
 have g0:∀ d,(P++(W++x::Q)).getD (P.length+W.length) d=x:=fun d=>by rw [<-List.append_assoc]; exact getD_midF (by simp) d
 obtain ⟨s,s1,s2,s3,s4,s5⟩:=bsearchF (fun f i j=>BsymG_5 k F f ((P.length+W.length:Nat):Int) (ordD dn) i j (P++(W++x::Q))) (fun i=>BsymG_7 k F F i ((P.length+W.length:Nat):Int) (P++(W++x::Q)))
  (fun h=>!decide (cmpD dn x ((P++(W++x::Q)).getD h dF) < 0)) P.length (P.length+W.length)
  (fun f i j h1 h2 h3=>by
   show BsymG_5 k F (f+1) _ _ _ _ _=_
   rw [BsymG_5_eq,half_eq2 i j (by omega),Int.toNat_natCast,Int.toNat_natCast]
   simp only [g0,Prod.eta]
   refine cond_t (decide_eq_true (by omega)) (need_mk (by unfold i64ok; omega) (need_mk (by rw [el]; omega) (need_mk (by rw [el]; omega) (need_mk (by rw [el]; omega) (need_mk (by rw [el]; omega) (need_mk ⟨dn,rfl⟩ ?_))))))
   rw [BsymG_6_eq,cmpO_dec]
   cases decide (cmpD dn x ((P++(W++x::Q)).getD ((i+j) / 2) dF) < 0) with
   | false=>exact need_mk (by unfold i64ok; omega) rfl
   | true=>rfl)
  (fun f i h1 h2=>by
   show BsymG_5 k F (f+1) _ _ _ _ _=_
   rw [BsymG_5_eq]
   exact cond_f (decide_eq_false (by omega)) rfl)
  (fun u v h1 h2 h3 hv=>by
   rw [Bool.not_eq_true',decide_eq_false_iff_not,cmpD_lt] at hv ⊢
   by_cases he:u=v
   .rw [he]; exact hv
   .exact fun q=>hv (q.trans (srt_idx hs (by omega) (by omega) (by omega) _))) W.length F P.length (P.length+W.length) (by omega) (by omega) (by omega) (by omega) (by omega) (fun h q1 q2=>by omega) (fun h q1 q2=>by omega)
 have s3:BsymG_5 k F F ((P.length+W.length:Nat):Int) (ordD dn) (P.length:Int) ((P.length+W.length:Nat):Int) (P++(W++x::Q))=BsymG_7 k F F (s:Int) ((P.length+W.length:Nat):Int) (P++(W++x::Q)):=s3
 rw [s3]
 obtain ⟨W1,W2,rfl,hW1⟩:∃ W1 W2,W=W1++W2/\W1.length=s - P.length:=⟨W.take (s - P.length),W.drop (s - P.length),by simp,by rw [List.length_take]; omega⟩
 have wl:(W1++W2).length=W1.length+W2.length:=by simp
 rw [wl] at hl s2 s5
 have q1:∀ z ∈ W1,LtF dn z x:=fun z hz=>by
  obtain ⟨u,u1,u2,u3⟩:=mem_idx (P:=P) (Q:=W2++x::Q) hz
  have:=s4 u (by omega) (by omega)
  rw [show P++(W1++W2++x::Q)=P++(W1++(W2++x::Q)) by simp,u3,Bool.not_eq_true',decide_eq_false_iff_not,cmpD_lt] at this
  exact LtF.of_not this fun e=>hid z (by simp [hz]) e.symm
 have q2:∀ z ∈ W2,LtF dn x z:=fun z hz=>by
  obtain ⟨u,u1,u2,u3⟩:=mem_idx (P:=P++W1) (Q:=x::Q) hz
  rw [List.length_append] at u1 u2
  have:=s5 u (by omega) (by omega)
  rw [show P++(W1++W2++x::Q)=(P++W1)++(W2++x::Q) by simp,u3,Bool.not_eq_false',decide_eq_true_eq,cmpD_lt] at this
  exact this
 have hm:msort dn (W1++W2++[x])=W1++x::W2:=by
  refine msort_of ?_ ?_
  .rw [List.append_assoc]
   exact List.Perm.append_left W1 (List.perm_append_singleton x W2).symm
  .rw [List.pairwise_append] at hs ⊢
   refine ⟨hs.1,List.pairwise_cons.2 ⟨q2,hs.2.1⟩,fun a ha z hz=>?_⟩
   rcases List.mem_cons.1 hz with rfl | hz
   .exact q1 a ha
   .exact (q1 a ha).trans (q2 z hz)
 have:=sym_7 k F (P++W1) x W2.length F W2 Q rfl (by omega) (by simp; omega)
 rw [show (((P++W1).length:Nat):Int)=(s:Int) by simp; omega,show (((P++W1).length+W2.length:Nat):Int)=((P.length+(W1++W2).length:Nat):Int) by simp; omega] at this
 rw [hm,show P++(W1++W2++x::Q)=(P++W1)++(W2++x::Q) by simp,this]
 simp
theorem symG_gen (k F:Nat) (dn:Bool) (P A B Q:List FoundT) (hF:1001<=F) (hA:A.Pairwise (LtF dn)) (hB:B.Pairwise (LtF dn)) (hid:IdsF (P++(A++(B++Q)))) (hl:P.length+(A.length+(B.length+Q.length))<=1000)
 (a2:2<=A.length) (b2:2<=B.length) (hk:A.length+B.length<=2 * 2 ^ k) (s lo hi:Nat) (h1:lo<=s) (h2:s<=hi) (mid:Nat) (hm:mid=(P.length+(P.length+A.length+B.length)) / 2)
 (hlh:(mid < P.length+A.length/\lo=mid - B.length/\hi=mid)\/(P.length+A.length<=mid/\lo=P.length/\hi=P.length+A.length))
 (g1:∀ c,lo<=c->c < s->¬ LtF dn ((P++(A++(B++Q))).getD (mid+(P.length+A.length) - 1 - c) dF) ((P++(A++(B++Q))).getD c dF))
 (g2:∀ c,s<=c->c < hi->LtF dn ((P++(A++(B++Q))).getD (mid+(P.length+A.length) - 1 - c) dF) ((P++(A++(B++Q))).getD c dF)):
 (cond ((decide ((s:Int) < ((P.length+A.length:Nat):Int)))&&(decide (((P.length+A.length:Nat):Int) < ((mid+(P.length+A.length) - s:Nat):Int))))
  (need (rotok (s:Int) ((P.length+A.length:Nat):Int) ((mid+(P.length+A.length) - s:Nat):Int) (P++(A++(B++Q)))) (BsymG_12 k F (P.length:Int) ((P.length+A.length+B.length:Nat):Int) (ordD dn) (mid:Int) (s:Int) ((mid+(P.length+A.length) - s:Nat):Int) (rotR (s:Int) ((P.length+A.length:Nat):Int) ((mid+(P.length+A.length) - s:Nat):Int) (P++(A++(B++Q))))))
  (BsymG_12 k F (P.length:Int) ((P.length+A.length+B.length:Nat):Int) (ordD dn) (mid:Int) (s:Int) ((mid+(P.length+A.length) - s:Nat):Int) (P++(A++(B++Q)))))=outF (P++(msort dn (A++B)++Q)):=by
 have el:(P++(A++(B++Q))).length=P.length+(A.length+(B.length+Q.length)):=by simp
 have hs1:P.length<=s/\s<=P.length+A.length/\s<=mid/\mid - s<=B.length:=by omega
 have c12:∀ u v,P.length<=u->u < s->mid+(P.length+A.length) - s<=v->v < P.length+A.length+B.length->LtF dn ((P++(A++(B++Q))).getD u dF) ((P++(A++(B++Q))).getD v dF):=fun u v u1 u2 v1 v2=>by
  have hlo:lo<=s - 1:=by omega
  have e1:mid+(P.length+A.length) - 1 - (s - 1)=mid+(P.length+A.length) - s:=by omega
  have hg:=g1 (s - 1) hlo (by omega)
  rw [e1] at hg
  have hg2:=LtF.of_not hg (ids_idx hid (by rw [el]; omega) (by rw [el]; omega) (by omega) dF)
  have p1:LtF dn ((P++(A++(B++Q))).getD u dF) ((P++(A++(B++Q))).getD (mid+(P.length+A.length) - s) dF):=by
   by_cases hu:u=s - 1
   .rw [hu]; exact hg2
   .exact LtF.trans (srt_idx hA u1 (by omega) (by omega) dF) hg2
  by_cases hv:v=mid+(P.length+A.length) - s
  .rw [hv]; exact p1
  .refine p1.trans ?_
   rw [<-List.append_assoc P A]
   exact srt_idx hB (by simp; omega) (by omega) (by simp; omega) dF
 have c21:∀ u v,P.length+A.length<=u->u < mid+(P.length+A.length) - s->s<=v->v < P.length+A.length->LtF dn ((P++(A++(B++Q))).getD u dF) ((P++(A++(B++Q))).getD v dF):=fun u v u1 u2 v1 v2=>by
  have e1:mid+(P.length+A.length) - 1 - s=mid+(P.length+A.length) - s - 1:=by omega
  have hg:=g2 s (by omega) (by omega)
  rw [e1] at hg
  have p1:LtF dn ((P++(A++(B++Q))).getD u dF) ((P++(A++(B++Q))).getD s dF):=by
   by_cases hu:u=mid+(P.length+A.length) - s - 1
   .rw [hu]; exact hg
   .refine LtF.trans ?_ hg
    rw [<-List.append_assoc P A]
    exact srt_idx hB (by simp; omega) (by omega) (by simp; omega) dF
  by_cases hv:v=s
  .rw [hv]; exact p1
  .exact p1.trans (srt_idx hA (by omega) (by omega) (by omega) dF)
 obtain ⟨A1,A2,rfl,hA1⟩:∃ A1 A2,A=A1++A2/\A1.length=s - P.length:=⟨A.take (s - P.length),A.drop (s - P.length),by simp,by rw [List.length_take]; omega⟩
 obtain ⟨B1,B2,rfl,hB1⟩:∃ B1 B2,B=B1++B2/\B1.length=mid - s:=⟨B.take (mid - s),B.drop (mid - s),by simp,by rw [List.length_take]; omega⟩
 have al:(A1++A2).length=A1.length+A2.length:=by simp
 have bl:(B1++B2).length=B1.length+B2.length:=by simp
 have eL:P++(A1++A2++(B1++B2++Q))=P++(A1++(A2++(B1++(B2++Q)))):=by simp
 simp only [al,bl,eL] at a2 b2 hk hl hlh hid c12 c21 el hs1 hm ⊢
 have m1:∀ x ∈ A1,∃ u,P.length<=u/\u < s/\∀ d,(P++(A1++(A2++(B1++(B2++Q))))).getD u d=x:=fun x hx=>by
  obtain ⟨u,u1,u2,u3⟩:=mem_idx (P:=P) (Q:=A2++(B1++(B2++Q))) hx
  exact ⟨u,u1,by omega,u3⟩
 have m2:∀ x ∈ A2,∃ u,s<=u/\u < P.length+(A1.length+A2.length)/\∀ d,(P++(A1++(A2++(B1++(B2++Q))))).getD u d=x:=fun x hx=>by
  obtain ⟨u,u1,u2,u3⟩:=mem_idx (P:=P++A1) (Q:=B1++(B2++Q)) hx
  rw [List.length_append] at u1 u2
  exact ⟨u,by omega,by omega,fun d=>by rw [<-u3 d]; simp⟩
 have m3:∀ x ∈ B1,∃ u,P.length+(A1.length+A2.length)<=u/\u < mid+(P.length+(A1.length+A2.length)) - s/\∀ d,(P++(A1++(A2++(B1++(B2++Q))))).getD u d=x:=fun x hx=>by
  obtain ⟨u,u1,u2,u3⟩:=mem_idx (P:=P++(A1++A2)) (Q:=B2++Q) hx
  simp only [List.length_append] at u1 u2
  exact ⟨u,by omega,by omega,fun d=>by rw [<-u3 d]; simp⟩
 have m4:∀ x ∈ B2,∃ u,mid+(P.length+(A1.length+A2.length)) - s<=u/\u < P.length+(A1.length+A2.length)+(B1.length+B2.length)/\∀ d,(P++(A1++(A2++(B1++(B2++Q))))).getD u d=x:=fun x hx=>by
  obtain ⟨u,u1,u2,u3⟩:=mem_idx (P:=P++(A1++(A2++B1))) (Q:=Q) hx
  simp only [List.length_append] at u1 u2
  exact ⟨u,by omega,by omega,fun d=>by rw [<-u3 d]; simp⟩
 have r12:∀ x ∈ A1,∀ y ∈ B2,LtF dn x y:=fun x hx y hy=>by
  obtain ⟨u,u1,u2,u3⟩:=m1 x hx
  obtain ⟨v,v1,v2,v3⟩:=m4 y hy
  have:=c12 u v u1 u2 v1 v2
  rw [u3,v3] at this; exact this
 have r21:∀ x ∈ B1,∀ y ∈ A2,LtF dn x y:=fun x hx y hy=>by
  obtain ⟨u,u1,u2,u3⟩:=m3 x hx
  obtain ⟨v,v1,v2,v3⟩:=m2 y hy
  have:=c21 u v u1 u2 v1 v2
  rw [u3,v3] at this; exact this
 obtain ⟨pA1,pA2,rA⟩:=List.pairwise_append.1 hA
 obtain ⟨pB1,pB2,rB⟩:=List.pairwise_append.1 hB
 have perm1:(P++(A1++(A2++(B1++(B2++Q))))).Perm (P++((A1++B1)++((A2++B2)++Q))):=by
  refine List.Perm.append_left P ?_
  rw [List.append_assoc,List.append_assoc]
  refine List.Perm.append_left A1 ?_
  rw [<-List.append_assoc,<-List.append_assoc B1]
  exact List.Perm.append_right _ List.perm_append_comm
 have hid1:IdsF (P++((A1++B1)++((A2++B2)++Q))):=hid.perm perm1
 have i1:IdsF (A1++B1):=(List.pairwise_append.1 (List.pairwise_append.1 hid1).2.1).1
 have i2:IdsF (A2++B2):=(List.pairwise_append.1 (List.pairwise_append.1 (List.pairwise_append.1 hid1).2.1).2.1).1
 have hid2:IdsF (P++(msort dn (A1++B1)++((A2++B2)++Q))):=hid1.perm (List.Perm.append_left P (List.Perm.append_right _ (msort_perm dn _).symm))
 have ml:(msort dn (A1++B1)).length=A1.length+B1.length:=by rw [(msort_perm dn _).length_eq]; simp
 have hms:msort dn (A1++A2++(B1++B2))=msort dn (A1++B1)++msort dn (A2++B2):=by
  refine msort_of ?_ ?_
  .refine ((msort_perm dn _).append (msort_perm dn _)).trans ?_
   rw [List.append_assoc,List.append_assoc]
   refine List.Perm.append_left A1 ?_
   rw [<-List.append_assoc,<-List.append_assoc A2]
   exact List.Perm.append_right _ List.perm_append_comm
  .refine List.pairwise_append.2 ⟨msort_lt i1,msort_lt i2,fun x hx y hy=>?_⟩
   have hx:=(msort_perm dn _).subset hx
   have hy:=(msort_perm dn _).subset hy
   rcases List.mem_append.1 hx with hx | hx <;> rcases List.mem_append.1 hy with hy | hy
   .exact rA x hx y hy
   .exact r12 x hx y hy
   .exact r21 x hx y hy
   .exact rB x hx y hy
 have e13:BsymG_13 k F ((P.length+(A1.length+A2.length)+(B1.length+B2.length):Nat):Int) (ordD dn) (mid:Int) ((mid+(P.length+(A1.length+A2.length)) - s:Nat):Int) (P++(msort dn (A1++B1)++((A2++B2)++Q)))=outF (P++(msort dn (A1++A2++(B1++B2))++Q)):=by
  rw [BsymG_13_eq,hms]
  have hlen:(P++(msort dn (A1++B1)++((A2++B2)++Q))).length=P.length+(A1.length+B1.length+(A2.length+B2.length+Q.length)):=by simp [ml]; omega
  have eR:P++(msort dn (A1++B1)++((A2++B2)++Q))=(P++msort dn (A1++B1))++((A2++B2)++Q):=by simp
  have pl:(P++msort dn (A1++B1)).length=mid:=by simp [ml]; omega
  by_cases hc:(mid:Int) < ((mid+(P.length+(A1.length+A2.length)) - s:Nat):Int)/\((mid+(P.length+(A1.length+A2.length)) - s:Nat):Int) < ((P.length+(A1.length+A2.length)+(B1.length+B2.length):Nat):Int)
  .refine cond_t (by rw [Bool.and_eq_true,decide_eq_true_eq,decide_eq_true_eq]; exact hc) (need_mk ⟨⟨dn,rfl⟩,by omega,hc.1,hc.2,by rw [hlen]; omega,by rw [hlen]; omega,by omega,hid2,?_,?_⟩ ?_)
   .rw [eR,show (P++msort dn (A1++B1))++((A2++B2)++Q)=(P++msort dn (A1++B1))++(A2++(B2++Q)) by simp]
    exact (srtd_app dn _ A2 _ _ _ (by rw [pl]) (by rw [pl]; omega)).2 pA2
   .rw [show P++(msort dn (A1++B1)++((A2++B2)++Q))=(P++(msort dn (A1++B1)++A2))++(B2++Q) by simp]
    exact (srtd_app dn _ B2 _ _ _ (by simp [ml]; omega) (by simp [ml]; omega)).2 pB2
   .rw [eR,sortR_app dn _ (A2++B2) Q _ _ (by rw [pl]) (by rw [pl,List.length_append]; omega)]
    simp
  .refine cond_f (and_f hc) ?_
   have hst:(A2++B2).Pairwise (LtF dn):=by
    rcases Nat.eq_zero_or_pos A2.length with h | h
    .rw [List.eq_nil_of_length_eq_zero h]; exact pB2
    .have:B2.length=0:=by omega
     rw [List.eq_nil_of_length_eq_zero this,List.append_nil]; exact pA2
   rw [msort_of (.refl _) hst]
   simp
 have e12:BsymG_12 k F (P.length:Int) ((P.length+(A1.length+A2.length)+(B1.length+B2.length):Nat):Int) (ordD dn) (mid:Int) (s:Int) ((mid+(P.length+(A1.length+A2.length)) - s:Nat):Int) (P++(A1++(B1++(A2++(B2++Q)))))=outF (P++(msort dn (A1++A2++(B1++B2))++Q)):=by
  rw [BsymG_12_eq,show P++(A1++(B1++(A2++(B2++Q))))=P++((A1++B1)++((A2++B2)++Q)) by simp]
  have hlen:(P++((A1++B1)++((A2++B2)++Q))).length=P.length+(A1.length+B1.length+(A2.length+B2.length+Q.length)):=by simp; omega
  by_cases hc:(P.length:Int) < (s:Int)/\(s:Int) < (mid:Int)
  .refine cond_t (by rw [Bool.and_eq_true,decide_eq_true_eq,decide_eq_true_eq]; exact hc) (need_mk ⟨⟨dn,rfl⟩,by omega,hc.1,hc.2,by rw [hlen]; omega,by rw [hlen]; omega,by omega,hid1,?_,?_⟩ ?_)
   .rw [List.append_assoc A1]
    exact (srtd_app dn _ A1 _ _ _ rfl (by omega)).2 pA1
   .rw [show P++((A1++B1)++((A2++B2)++Q))=(P++A1)++(B1++((A2++B2)++Q)) by simp]
    exact (srtd_app dn _ B1 _ _ _ (by simp; omega) (by simp; omega)).2 pB1
   .rw [sortR_app dn P (A1++B1) _ _ _ rfl (by rw [List.length_append]; omega)]
    exact e13
  .refine cond_f (and_f hc) ?_
   have hst:(A1++B1).Pairwise (LtF dn):=by
    rcases Nat.eq_zero_or_pos A1.length with h | h
    .rw [List.eq_nil_of_length_eq_zero h]; exact pB1
    .have:B1.length=0:=by omega
     rw [List.eq_nil_of_length_eq_zero this,List.append_nil]; exact pA1
   rw [msort_of (.refl _) hst] at e13
   exact e13
 by_cases hc:(s:Int) < ((P.length+(A1.length+A2.length):Nat):Int)/\((P.length+(A1.length+A2.length):Nat):Int) < ((mid+(P.length+(A1.length+A2.length)) - s:Nat):Int)
 .refine cond_t (by rw [Bool.and_eq_true,decide_eq_true_eq,decide_eq_true_eq]; exact hc) (need_mk ⟨by omega,hc.1,hc.2,by rw [el]; omega,by rw [el]; omega⟩ ?_)
  rw [<-List.append_assoc P A1,rotR_app (P++A1) A2 B1 (B2++Q) _ _ _ (by simp; omega) (by simp; omega) (by simp; omega),List.append_assoc P A1]
  exact e12
 .refine cond_f (and_f hc) ?_
  have:A2++(B1++(B2++Q))=B1++(A2++(B2++Q)):=by
   rcases Nat.eq_zero_or_pos A2.length with h | h
   .rw [List.eq_nil_of_length_eq_zero h]; rfl
   .have:B1.length=0:=by omega
    rw [List.eq_nil_of_length_eq_zero this]; rfl
  rw [this]
  exact e12
end Go.Proofs.YtampckbjinodgaaGreatDoor
