/-
  Lifted functions, and facts about them.
-/
import Derived.Test.YtoanepondbagcaaGreatDoorRows
import Derived.Test.YtoanepondbagcaaGreatDoorAmC
import Derived.Test.YtoanepondbagcaaGreatDoorC23
import Derived.Test.YtoanepondbagcaaGreatDoorC14IxAny2
import Derived.Shelf.Strings.FieldsFuncAny
import Derived.Shelf.Spec.SlicesGrow
import Derived.Test.YtoanepondbagcaaGreatDoorC21
namespace Go.Proofs.YtoanepondbagcaaGreatDoor
open Go Go.Am
set_option linter.unusedVariables false
def fldF:List UInt8->List UInt8->List (List UInt8)
 | [],cur=>if cur=[] then [] else [cur]
 | c::r,cur=>if c.toNat<=32 then (if cur=[] then fldF r [] else cur::fldF r []) else fldF r (cur++[c])
def fldS (s:List UInt8):List (List UInt8):=fldF s []
theorem fldF_skip:∀ (x r cur:List UInt8),(∀ c ∈ x,32 < c.toNat)->fldF (x++r) cur=fldF r (cur++x)
 | [],r,cur,_=>by simp
 | c::x,r,cur,h=>by
  have hc:=h c (List.mem_cons_self ..)
  rw [List.cons_append,fldF,if_neg (by omega),fldF_skip x r _ fun d hd=>h d (List.mem_cons_of_mem _ hd)]
  simp
def curOf (l:List UInt8) (pos:Nat):Option Nat->List UInt8
 | none=>[]
 | some a=>(l.take pos).drop a
end Go.Proofs.YtoanepondbagcaaGreatDoor
namespace Go.Proofs.YtoanepondbagcaaGreatDoor
open Go Go.RowKit Go.Lib Go.Shelf
def lays229_ren : Go.Shelf.Ren:=⟨fun |229=>42|n=>n, fun |9=>9|40=>55|31=>30|152=>100|3=>3|0=>0|4=>4|21=>21|154=>102|n=>n, fun |n=>n⟩
theorem lays229 : Go.Proofs.Lays.n229 Tryz.prog lays229_ren:={
 mixed:=by kernel_rfl
 f229:=Tryz.func42.trans (congrArg some (by kernel_rfl))
 t0:=Tryz.underlying0
 a0:=Tryz.isAgg0
 z0:=Tryz.sizeOf0
 v0:=Tryz.zeroValue0
 t3:=Tryz.underlying3
 a3:=Tryz.isAgg3
 z3:=Tryz.sizeOf3
 v3:=Tryz.zeroValue3
 t4:=Tryz.underlying4
 a4:=Tryz.isAgg4
 z4:=Tryz.sizeOf4
 v4:=Tryz.zeroValue4
 t9:=Tryz.underlying9
 a9:=Tryz.isAgg9
 z9:=Tryz.sizeOf9
 v9:=Tryz.zeroValue9
 t21:=Tryz.underlying21
 a21:=Tryz.isAgg21
 z21:=Tryz.sizeOf21
 v21:=Tryz.zeroValue21
 t31:=Tryz.underlying30
 a31:=Tryz.isAgg30
 z31:=Tryz.sizeOf30
 v31:=Tryz.zeroValue30
 t40:=Tryz.underlying55
 a40:=Tryz.isAgg55
 z40:=Tryz.sizeOf55
 v40:=Tryz.zeroValue55
 t152:=Tryz.underlying100
 a152:=Tryz.isAgg100
 z152:=Tryz.sizeOf100
 v152:=Tryz.zeroValue100
 t154:=Tryz.underlying102
 a154:=Tryz.isAgg102
 z154:=Tryz.sizeOf102
 v154:=Tryz.zeroValue102 }
end Go.Proofs.YtoanepondbagcaaGreatDoor
namespace Go.Proofs.YtoanepondbagcaaGreatDoor
open Go Go.Am Go.Shelf
end Go.Proofs.YtoanepondbagcaaGreatDoor
namespace Go.Proofs.YtoanepondbagcaaGreatDoor
open Go Go.Am
set_option linter.unusedVariables false
end Go.Proofs.YtoanepondbagcaaGreatDoor
namespace Go.Proofs.YtoanepondbagcaaGreatDoor
open Go Go.RowKit Go.Lib Go.Shelf
end Go.Proofs.YtoanepondbagcaaGreatDoor
namespace Go.Proofs.YtoanepondbagcaaGreatDoor
open Go Go.Am Go.Shelf
end Go.Proofs.YtoanepondbagcaaGreatDoor
namespace Go.Proofs.YtoanepondbagcaaGreatDoor
open Go Go.Am
set_option linter.unusedVariables false
def tText:List UInt8:=[116,101,120,116]
def parmS (ps:List (List UInt8×List UInt8)):List (List UInt8):=ps.flatMap fun f=>[tstrS f.1,tstrS f.2]
def parmT (ps:List (List UInt8×List UInt8)):List UInt8:=if ps.length > 0 then (([40]:List UInt8)++joinS [32] (parmS ps))++[41] else [78,73,76]
def cutP (s:List UInt8) (f t:Int):List UInt8:=(s.take t.toNat).drop f.toNat
def leafL (s ty:List UInt8) (ps:List (List UInt8×List UInt8)) (en:List UInt8) (f t:Int):List (List UInt8):=
 [tstrS (cutS ty 47).1,tstrS (cutS ty 47).2.1,parmT ps,[78,73,76],[78,73,76],tstrS en,tdigS (t - f)]++(if (cutS ty 47).1=tText then [tdigS (cntS (cutP s f t) 10)] else [])
def strucS:Nat->List UInt8->Part->List UInt8
 | 0,_,_=>[]
 | k+1,s,p=>
  if p.kids.length > 0 then ((([40]:List UInt8)++p.kids.flatMap (strucS k s))++[32]++tstrS (cutS p.type 47).2.1)++[41]
  else (([40]:List UInt8)++joinS [32] (leafL s p.type p.params p.enc p.frm p.til))++[41]
abbrev leafok (s ty:List UInt8) (ps:List (List UInt8×List UInt8)) (en:List UInt8) (f t:Int):Prop:=
 tok (cutS ty 47).1/\tok en/\(∀ x ∈ ps,tok x.1/\tok x.2)/\ps.length<=100000/\joinok (parmS ps) [32]/\(0<=f/\f<=t/\t<=(s.length:Int))/\s.length<=1000000/\t - f < 100/\cntS (cutP s f t) 10 < 100/\joinok (leafL s ty ps en f t) [32]
def strucok:Nat->List UInt8->Part->Prop
 | 0,_,_=>False
 | k+1,s,p=>p.type.length<=1000000/\tok (cutS p.type 47).2.1/\p.kids.length<=10000000/\(p.kids.flatMap (strucS k s)).length<=1000000000000/\(∀ q ∈ p.kids,strucok k s q)/\(p.kids.length=0->leafok s p.type p.params p.enc p.frm p.til)
def sp_struct (k:Nat):List AV->Option (AV×Option Prop)
 | [.p (.str s),.agg [.p (.str ty),.p (.list 2 (.dat (.pair .str .str) ps)),.p (.str en),.p (.bool at_),.p (.int .i64 h),.p (.int .i64 f),.p (.int .i64 t),.p (.list 8 (.dat .part ks))]]=>some (.p (.str (strucS k s (Part.mk ty ps en at_ h f t ks))),some (strucok k s (Part.mk ty ps en at_ h f t ks)))
 | _=>none
noncomputable def cstruct:Code:=bodyOf Tryz.f29
noncomputable def Gstruct (k:Nat):Cfg:=⟨Tryz.prog,mkEnv [(27,sp_joinl),(29,sp_struct k),(50,sp_tstr),(53,sp_cut),(54,sp_tdig),(55,sp_cnt)],mkEnvR [],103,[],[([0,1,0,1,0,1,0,1,1],⟨[0,6,8,28,29,30],[]⟩),([1,1,1,0,0,1,0,1,0,1,0,1,1],⟨[0,6,8,28,29,30],[]⟩),([0,1,0,1,0,1,0,1,1,1,1],⟨[0,3,5,6,12,51,52,53],[⟨.slot 3,3,.cells []⟩,⟨.slot 12,12,(.larr 9 false 1 (.dat .str ([]:List (List UInt8))))⟩]⟩),([1,1,1,0,0,1,0,1,0,1,0,1,1,1,1],⟨[0,3,5,6,12,51,52,53],[⟨.slot 3,3,.cells []⟩,⟨.slot 12,12,(.larr 9 false 1 (.dat .str ([]:List (List UInt8))))⟩]⟩),([1,1,1,1,1],⟨[0,3,5,6,11],[⟨.slot 3,3,.cells []⟩]⟩),([1,1,1,1,1,1],⟨[0,3,5,15],[⟨.slot 3,3,.cells []⟩,⟨.slot 15,15,(.larr 9 false 1 (.dat .str ([]:List (List UInt8))))⟩]⟩),([1,1,1,1,1,1,1],⟨[15],[⟨.slot 15,15,(.larr 9 false 1 (.dat .str ([]:List (List UInt8))))⟩]⟩)],[]⟩
noncomputable def Bstruct_1 (k F f1:Nat) (s vs1 vs2:List UInt8) (ks:List Part) (vi3 vi4:Int):Option Ans:=runR (Gstruct k) cstruct (kP Tryz.prog Tryz.f29.results.toList) F [] [1,1,0,1,0,1,0,1,0] f1 [(0,.p (.str s)),(6,.p (.str vs1)),(8,.p (.str vs2)),(28,.p (.list 8 (.dat .part ks))),(29,.p (.int .i64 vi3)),(30,.p (.int .i64 vi4))] []
noncomputable def Bstruct_2 (k F f1:Nat) (s vs1 vs5:List UInt8) (ks:List Part) (vi3 vi4:Int):Option Ans:=runB (Gstruct k) cstruct (kP Tryz.prog Tryz.f29.results.toList) F [f1] [1,1,0,1,0,1,0,1,0,0,1,1,1] [(0,.p (.str s)),(6,.p (.str vs1)),(8,.p (.str vs5)),(28,.p (.list 8 (.dat .part ks))),(29,.p (.int .i64 vi3)),(30,.p (.int .i64 vi4))] []
noncomputable def Bstruct_3 (k F f2:Nat) (s vs6 vs7:List UInt8) (ps:List (List UInt8×List UInt8)) (vi8 vi9:Int) (vs10:List UInt8) (vl11:List (List UInt8×List UInt8)) (vs12:List UInt8) (vc13:Bool) (vi14 vi15 vi16:Int) (vl17:List Part) (vl18:List (List UInt8)):Option Ans:=runR (Gstruct k) cstruct (kP Tryz.prog Tryz.f29.results.toList) F [] [1,1,1,1,0,1,0,1,0,1,0] f2 [(0,.p (.str s)),(3,.ref 3 0),(5,.p (.str vs6)),(6,.p (.str vs7)),(12,.arr 12),(51,.p (.list 2 (.dat (.pair .str .str) ps))),(52,.p (.int .i64 vi8)),(53,.p (.int .i64 vi9))] [(3,.cells [.p (.str vs10),.p (.list 2 (.dat (.pair .str .str) vl11)),.p (.str vs12),.p (.bool vc13),.p (.int .i64 vi14),.p (.int .i64 vi15),.p (.int .i64 vi16),.p (.list 8 (.dat .part vl17))]),(12,.larr 9 false 1 (.dat .str vl18))]
noncomputable def Bstruct_4 (k F f2:Nat) (s vs6 vs7:List UInt8) (ps:List (List UInt8×List UInt8)) (vi8 vi9:Int) (vs10:List UInt8) (vl11:List (List UInt8×List UInt8)) (vs12:List UInt8) (vc13:Bool) (vi14 vi15 vi16:Int) (vl17:List Part) (vl19:List (List UInt8)):Option Ans:=runB (Gstruct k) cstruct (kP Tryz.prog Tryz.f29.results.toList) F [f2] [1,1,1,1,0,1,0,1,0,1,0,0,1,1,1] [(0,.p (.str s)),(3,.ref 3 0),(5,.p (.str vs6)),(6,.p (.str vs7)),(12,.arr 12),(51,.p (.list 2 (.dat (.pair .str .str) ps))),(52,.p (.int .i64 vi8)),(53,.p (.int .i64 vi9))] [(3,.cells [.p (.str vs10),.p (.list 2 (.dat (.pair .str .str) vl11)),.p (.str vs12),.p (.bool vc13),.p (.int .i64 vi14),.p (.int .i64 vi15),.p (.int .i64 vi16),.p (.list 8 (.dat .part vl17))]),(12,.larr 9 false 1 (.dat .str vl19))]
noncomputable def Bstruct_5 (k F:Nat) (s vs6 vs7 vs20 vs21:List UInt8) (vl22:List (List UInt8×List UInt8)) (vs23:List UInt8) (vc24:Bool) (vi25 vi26 vi27:Int) (vl28:List Part):Option Ans:=runB (Gstruct k) cstruct (kP Tryz.prog Tryz.f29.results.toList) F [] [1,1,1,1,1] [(0,.p (.str s)),(3,.ref 3 0),(5,.p (.str vs6)),(6,.p (.str vs7)),(11,.p (.str vs20))] [(3,.cells [.p (.str vs21),.p (.list 2 (.dat (.pair .str .str) vl22)),.p (.str vs23),.p (.bool vc24),.p (.int .i64 vi25),.p (.int .i64 vi26),.p (.int .i64 vi27),.p (.list 8 (.dat .part vl28))])]
noncomputable def Bstruct_6 (k F:Nat) (s vs6 vs21:List UInt8) (vl22:List (List UInt8×List UInt8)) (vs23:List UInt8) (vc24:Bool) (vi25 vi26 vi27:Int) (vl28:List Part) (vl29:List (List UInt8)):Option Ans:=runB (Gstruct k) cstruct (kP Tryz.prog Tryz.f29.results.toList) F [] [1,1,1,1,1,1] [(0,.p (.str s)),(3,.ref 3 0),(5,.p (.str vs6)),(15,.arr 15)] [(3,.cells [.p (.str vs21),.p (.list 2 (.dat (.pair .str .str) vl22)),.p (.str vs23),.p (.bool vc24),.p (.int .i64 vi25),.p (.int .i64 vi26),.p (.int .i64 vi27),.p (.list 8 (.dat .part vl28))]),(15,.larr 9 false 1 (.dat .str vl29))]
noncomputable def Bstruct_7 (k F:Nat) (vl30:List (List UInt8)):Option Ans:=runB (Gstruct k) cstruct (kP Tryz.prog Tryz.f29.results.toList) F [] [1,1,1,1,1,1,1] [(15,.arr 15)] [(15,.larr 9 false 1 (.dat .str vl30))]
noncomputable def Fstruct (k F:Nat) (s ty:List UInt8) (ps:List (List UInt8×List UInt8)) (en:List UInt8) (at_:Bool) (h_ f_ t_:Int) (ks:List Part):Option Ans:=runF (Gstruct k) Tryz.f29 F [.p (.str s),.agg [.p (.str ty),.p (.list 2 (.dat (.pair .str .str) ps)),.p (.str en),.p (.bool at_),.p (.int .i64 h_),.p (.int .i64 f_),.p (.int .i64 t_),.p (.list 8 (.dat .part ks))]]
theorem Bstruct_1_eq (k F f1:Nat) (s vs1 vs2:List UInt8) (ks:List Part) (vi3 vi4:Int):Bstruct_1 k F (f1+1) s vs1 vs2 ks vi3 vi4=cond (decide (vi4 < vi3)) (need (0<=vi4/\vi4 < (ks.length:Int)) (need (strucok k s (Part.mk ((ks.getD (vi4).toNat (dfl .part)).type) ((ks.getD (vi4).toNat (dfl .part)).params) ((ks.getD (vi4).toNat (dfl .part)).enc) ((ks.getD (vi4).toNat (dfl .part)).attach) ((ks.getD (vi4).toNat (dfl .part)).head) ((ks.getD (vi4).toNat (dfl .part)).frm) ((ks.getD (vi4).toNat (dfl .part)).til) ((ks.getD (vi4).toNat (dfl .part)).kids))) (need (lenok (vs2.length+(strucS k s (Part.mk ((ks.getD (vi4).toNat (dfl .part)).type) ((ks.getD (vi4).toNat (dfl .part)).params) ((ks.getD (vi4).toNat (dfl .part)).enc) ((ks.getD (vi4).toNat (dfl .part)).attach) ((ks.getD (vi4).toNat (dfl .part)).head) ((ks.getD (vi4).toNat (dfl .part)).frm) ((ks.getD (vi4).toNat (dfl .part)).til) ((ks.getD (vi4).toNat (dfl .part)).kids))).length)) (Bstruct_2 k F f1 s vs1 (vs2++(strucS k s (Part.mk ((ks.getD (vi4).toNat (dfl .part)).type) ((ks.getD (vi4).toNat (dfl .part)).params) ((ks.getD (vi4).toNat (dfl .part)).enc) ((ks.getD (vi4).toNat (dfl .part)).attach) ((ks.getD (vi4).toNat (dfl .part)).head) ((ks.getD (vi4).toNat (dfl .part)).frm) ((ks.getD (vi4).toNat (dfl .part)).til) ((ks.getD (vi4).toNat (dfl .part)).kids)))) ks vi3 vi4)))) (need (lenok (vs2.length+([32]:List UInt8).length)) (need (vs1.length<=1000000/\(tplainS vs1=true\/vs1.length < 100)) (need (lenok ((vs2++([32]:List UInt8)).length+(tstrS vs1).length)) (need (lenok (((vs2++([32]:List UInt8))++(tstrS vs1)).length+([41]:List UInt8).length)) (some (.p (.str (((vs2++([32]:List UInt8))++(tstrS vs1))++([41]:List UInt8))),[])))))):=by kernel_rfl
theorem Bstruct_2_eq (k F f1:Nat) (s vs1 vs5:List UInt8) (ks:List Part) (vi3 vi4:Int):Bstruct_2 k F f1 s vs1 vs5 ks vi3 vi4=need (i64ok (vi4+(1:Int))) (Bstruct_1 k F f1 s vs1 vs5 ks vi3 (vi4+(1:Int))):=by kernel_rfl
theorem Bstruct_3_eq (k F f2:Nat) (s vs6 vs7:List UInt8) (ps:List (List UInt8×List UInt8)) (vi8 vi9:Int) (vs10:List UInt8) (vl11:List (List UInt8×List UInt8)) (vs12:List UInt8) (vc13:Bool) (vi14 vi15 vi16:Int) (vl17:List Part) (vl18:List (List UInt8)):Bstruct_3 k F (f2+1) s vs6 vs7 ps vi8 vi9 vs10 vl11 vs12 vc13 vi14 vi15 vi16 vl17 vl18=cond (decide (vi9 < vi8)) (need (0<=vi9/\vi9 < (ps.length:Int)) (need (((ps.getD (vi9).toNat ([],[])).1).length<=1000000/\(tplainS ((ps.getD (vi9).toNat ([],[])).1)=true\/((ps.getD (vi9).toNat ([],[])).1).length < 100)) (need (((ps.getD (vi9).toNat ([],[])).2).length<=1000000/\(tplainS ((ps.getD (vi9).toNat ([],[])).2)=true\/((ps.getD (vi9).toNat ([],[])).2).length < 100)) (need ((vl18.length+[tstrS ((ps.getD (vi9).toNat ([],[])).1),tstrS ((ps.getD (vi9).toNat ([],[])).2)].length) * 16<=140737488355328) (Bstruct_4 k F f2 s vs6 vs7 ps vi8 vi9 vs10 vl11 vs12 vc13 vi14 vi15 vi16 vl17 (vl18++[tstrS ((ps.getD (vi9).toNat ([],[])).1),tstrS ((ps.getD (vi9).toNat ([],[])).2)])))))) (need (joinok vl18 ([32]:List UInt8)) (need (lenok (([40]:List UInt8).length+(joinS ([32]:List UInt8) vl18).length)) (need (lenok ((([40]:List UInt8)++(joinS ([32]:List UInt8) vl18)).length+([41]:List UInt8).length)) (Bstruct_5 k F s vs6 vs7 ((([40]:List UInt8)++(joinS ([32]:List UInt8) vl18))++([41]:List UInt8)) vs10 vl11 vs12 vc13 vi14 vi15 vi16 vl17)))):=by kernel_rfl
theorem Bstruct_4_eq (k F f2:Nat) (s vs6 vs7:List UInt8) (ps:List (List UInt8×List UInt8)) (vi8 vi9:Int) (vs10:List UInt8) (vl11:List (List UInt8×List UInt8)) (vs12:List UInt8) (vc13:Bool) (vi14 vi15 vi16:Int) (vl17:List Part) (vl19:List (List UInt8)):Bstruct_4 k F f2 s vs6 vs7 ps vi8 vi9 vs10 vl11 vs12 vc13 vi14 vi15 vi16 vl17 vl19=need (i64ok (vi9+(1:Int))) (Bstruct_3 k F f2 s vs6 vs7 ps vi8 (vi9+(1:Int)) vs10 vl11 vs12 vc13 vi14 vi15 vi16 vl17 vl19):=by kernel_rfl
theorem Bstruct_5_eq (k F:Nat) (s vs6 vs7 vs20 vs21:List UInt8) (vl22:List (List UInt8×List UInt8)) (vs23:List UInt8) (vc24:Bool) (vi25 vi26 vi27:Int) (vl28:List Part):Bstruct_5 k F s vs6 vs7 vs20 vs21 vl22 vs23 vc24 vi25 vi26 vi27 vl28=need (vs6.length<=1000000/\(tplainS vs6=true\/vs6.length < 100)) (need (vs7.length<=1000000/\(tplainS vs7=true\/vs7.length < 100)) (need (vs23.length<=1000000/\(tplainS vs23=true\/vs23.length < 100)) (need (i64ok (vi27 - vi26)) (need ((vi27 - vi26) < 100) (Bstruct_6 k F s vs6 vs21 vl22 vs23 vc24 vi25 vi26 vi27 vl28 [tstrS vs6,tstrS vs7,vs20,([78,73,76]:List UInt8),([78,73,76]:List UInt8),tstrS vs23,tdigS (vi27 - vi26)]))))):=by kernel_rfl
theorem Bstruct_6_eq (k F:Nat) (s vs6 vs21:List UInt8) (vl22:List (List UInt8×List UInt8)) (vs23:List UInt8) (vc24:Bool) (vi25 vi26 vi27:Int) (vl28:List Part) (vl29:List (List UInt8)):Bstruct_6 k F s vs6 vs21 vl22 vs23 vc24 vi25 vi26 vi27 vl28 vl29=cond (vs6==([116,101,120,116]:List UInt8)) (need (0<=vi26/\vi26<=vi27/\vi27<=(s.length:Int)) (need ((cntS ((s.take (vi27).toNat).drop (vi26).toNat) 10) < 100) (need ((vl29.length+[tdigS (cntS ((s.take (vi27).toNat).drop (vi26).toNat) 10)].length) * 16<=140737488355328) (Bstruct_7 k F (vl29++[tdigS (cntS ((s.take (vi27).toNat).drop (vi26).toNat) 10)]))))) (Bstruct_7 k F vl29):=by kernel_rfl
theorem Bstruct_7_eq (k F:Nat) (vl30:List (List UInt8)):Bstruct_7 k F vl30=need (joinok vl30 ([32]:List UInt8)) (need (lenok (([40]:List UInt8).length+(joinS ([32]:List UInt8) vl30).length)) (need (lenok ((([40]:List UInt8)++(joinS ([32]:List UInt8) vl30)).length+([41]:List UInt8).length)) (some (.p (.str ((([40]:List UInt8)++(joinS ([32]:List UInt8) vl30))++([41]:List UInt8))),[])))):=by kernel_rfl
theorem Fstruct_eq (k F:Nat) (s ty:List UInt8) (ps:List (List UInt8×List UInt8)) (en:List UInt8) (at_:Bool) (h_ f_ t_:Int) (ks:List Part):Fstruct k F s ty ps en at_ h_ f_ t_ ks=need (ty.length<=1000000) (cond (decide ((ks.length:Int) > (0:Int))) (Bstruct_1 k F F s ((cutS ty 47).2.1) ([40]:List UInt8) ks (ks.length:Int) (0:Int)) (cond (decide ((ps.length:Int) > (0:Int))) (Bstruct_3 k F F s ((cutS ty 47).1) ((cutS ty 47).2.1) ps (ps.length:Int) (0:Int) ty ps en at_ h_ f_ t_ ks ([]:List (List UInt8))) (Bstruct_5 k F s ((cutS ty 47).1) ((cutS ty 47).2.1) ([78,73,76]:List UInt8) ty ps en at_ h_ f_ t_ ks))):=by kernel_rfl
theorem fn_struct (k:Nat) (hrec:SpecOk Tryz.prog 29 (sp_struct k)) (F:Nat) (s ty:List UInt8) (ps:List (List UInt8×List UInt8)) (en:List UInt8) (at_:Bool) (h_ f_ t_:Int) (ks:List Part) (r:AV) (h:(∃ M vs,ARels γ0 M [.p (.str s),.agg [.p (.str ty),.p (.list 2 (.dat (.pair .str .str) ps)),.p (.str en),.p (.bool at_),.p (.int .i64 h_),.p (.int .i64 f_),.p (.int .i64 t_),.p (.list 8 (.dat .part ks))]] vs)->Fstruct k F s ty ps en at_ h_ f_ t_ ks=some (r,[])):FnP Tryz.prog 29 [.p (.str s),.agg [.p (.str ty),.p (.list 2 (.dat (.pair .str .str) ps)),.p (.str en),.p (.bool at_),.p (.int .i64 h_),.p (.int .i64 f_),.p (.int .i64 t_),.p (.list 8 (.dat .part ks))]] r:=
 FnP_run (Gstruct k) F rfl (EnvOk_mk (l:=[(27,sp_joinl),(29,sp_struct k),(50,sp_tstr),(53,sp_cut),(54,sp_tdig),(55,sp_cnt)]) ⟨ok_joinl.any,hrec.any,ok_tstr.any,ok_cut.any,ok_tdig.any,ok_cnt.any,trivial⟩) (EnvROk_mk (l:=[]) trivial) (Checked.mixed Tryz.checked) (fn:=Tryz.f29) (by kernel_rfl) (by kernel_rfl) rfl h
theorem struct_kids (k F:Nat) (s sub:List UInt8) (ks:List Part) (hk:ks.length<=10000000) (hd:∀ q ∈ ks,strucok k s q) (hs:tok sub):∀ (r:List Part) (f i:Nat) (acc:List UInt8),ks.drop i=r->r.length < f->i<=ks.length->acc.length+(r.flatMap (strucS k s)).length<=1000000000001->
 Bstruct_1 k F f s sub acc ks (ks.length:Int) (i:Int)=some (.p (.str ((((acc++r.flatMap (strucS k s))++[32])++tstrS sub)++[41])),[]):=by
 intro r
 induction r with
 | nil=>
  intro f i acc hd hf hi ha
  have:i=ks.length:=by have:=congrArg List.length hd; simp at this; omega
  have hts:=tstr_len sub
  have hsl:=hs.1
  simp only [List.flatMap_nil,List.length_nil] at ha
  cases f with
  | zero=>omega
  | succ f=>
   rw [Bstruct_1_eq]
   refine cond_f (by simp; omega) (need_mk (by unfold lenok; simp; omega) (need_mk hs (need_mk (by unfold lenok; simp; omega) (need_mk (by unfold lenok; simp; omega) ?_))))
   simp
 | cons x r ih=>
  intro f i acc hdd hf hi ha
  obtain ⟨h1,h2,h3⟩:=dropG hdd (dfl .part)
  have hx:x ∈ ks:=by rw [<-h1]; exact getD_mem h3 _
  rw [List.flatMap_cons,List.length_append] at ha
  cases f with
  | zero=>omega
  | succ f=>
   rw [Bstruct_1_eq,Int.toNat_natCast,h1,part_eta]
   refine cond_t (by simp; omega) (need_mk ⟨by omega,by omega⟩ (need_mk (hd x hx) (need_mk (by unfold lenok; omega) ?_)))
   rw [Bstruct_2_eq]
   refine need_mk (by unfold i64ok; omega) ?_
   rw [show (i:Int)+1=((i+1:Nat):Int) by omega,ih f (i+1) _ h2 (by simp at hf; omega) (by omega) (by rw [List.length_append]; omega)]
   simp
theorem struct_parm (k F:Nat) (s kd sub ty en:List UInt8) (at_:Bool) (h_ f_ t_:Int) (ps:List (List UInt8×List UInt8)) (ks:List Part) (hp:∀ x ∈ ps,tok x.1/\tok x.2) (hl:ps.length<=100000):∀ (r:List (List UInt8×List UInt8)) (f i:Nat) (acc:List (List UInt8)),ps.drop i=r->r.length < f->i<=ps.length->acc.length<=2 * i->joinok (acc++parmS r) [32]->
 Bstruct_3 k F f s kd sub ps (ps.length:Int) (i:Int) ty ps en at_ h_ f_ t_ ks acc=Bstruct_5 k F s kd sub ((([40]:List UInt8)++joinS [32] (acc++parmS r))++[41]) ty ps en at_ h_ f_ t_ ks:=by
 intro r
 induction r with
 | nil=>
  intro f i acc hd hf hi ha hj
  have:i=ps.length:=by have:=congrArg List.length hd; simp at this; omega
  have e:acc++parmS []=acc:=by simp [parmS]
  rw [e] at hj ⊢
  have hjl:=joinS_len [32] acc
  have ht:=hj.2.2.2
  have h3:=hj.2.2.1
  cases f with
  | zero=>omega
  | succ f=>
   rw [Bstruct_3_eq]
   exact cond_f (by simp; omega) (need_mk hj (need_mk (by unfold lenok; simp at hjl ⊢; omega) (need_mk (by unfold lenok; simp at hjl ⊢; omega) rfl)))
 | cons x r ih=>
  intro f i acc hdd hf hi ha hj
  obtain ⟨h1,h2,h3⟩:=dropG hdd ([],[])
  have hx:x ∈ ps:=by rw [<-h1]; exact getD_mem h3 _
  have e:acc++parmS (x::r)=(acc++[tstrS x.1,tstrS x.2])++parmS r:=by simp [parmS]
  rw [e] at hj ⊢
  cases f with
  | zero=>omega
  | succ f=>
   rw [Bstruct_3_eq,Int.toNat_natCast,h1]
   refine cond_t (by simp; omega) (need_mk ⟨by omega,by omega⟩ (need_mk (hp x hx).1 (need_mk (hp x hx).2 (need_mk (by simp; omega) ?_))))
   rw [Bstruct_4_eq]
   refine need_mk (by unfold i64ok; omega) ?_
   rw [show (i:Int)+1=((i+1:Nat):Int) by omega]
   exact ih f (i+1) _ h2 (by simp at hf; omega) (by omega) (by simp; omega) hj
theorem struct_leaf (k F:Nat) (s ty en:List UInt8) (at_:Bool) (h_ f_ t_:Int) (ps:List (List UInt8×List UInt8)) (ks:List Part) (hsub:tok (cutS ty 47).2.1) (hk:leafok s ty ps en f_ t_):
 Bstruct_5 k F s (cutS ty 47).1 (cutS ty 47).2.1 (parmT ps) ty ps en at_ h_ f_ t_ ks=some (.p (.str ((([40]:List UInt8)++joinS [32] (leafL s ty ps en f_ t_))++[41])),[]):=by
 obtain ⟨k1,k2,k3,k4,k5,k6,k7,k8,k9,k10⟩:=hk
 have fin:∀ L:List (List UInt8),L=leafL s ty ps en f_ t_->Bstruct_7 k F L=some (.p (.str ((([40]:List UInt8)++joinS [32] (leafL s ty ps en f_ t_))++[41])),[]):=by
  intro L hL
  have hjl:=joinS_len [32] (leafL s ty ps en f_ t_)
  have ht:=k10.2.2.2
  have h3:=k10.2.2.1
  rw [Bstruct_7_eq,hL]
  exact need_mk k10 (need_mk (by unfold lenok; simp at hjl ⊢; omega) (need_mk (by unfold lenok; simp at hjl ⊢; omega) rfl))
 rw [Bstruct_5_eq]
 refine need_mk k1 (need_mk hsub (need_mk k2 (need_mk (by unfold i64ok; omega) (need_mk k8 ?_))))
 rw [Bstruct_6_eq]
 by_cases hq:(cutS ty 47).1=tText
 .refine cond_t (by rw [hq]; rfl) (need_mk k6 (need_mk k9 (need_mk (by simp) (fin _ ?_))))
  unfold leafL
  rw [if_pos hq]; rfl
 .refine cond_f (by rw [beq_eq_false_iff_ne]; exact hq) (fin _ ?_)
  unfold leafL
  rw [if_neg hq,List.append_nil]
theorem struct_eq (k:Nat) (s ty en:List UInt8) (ps:List (List UInt8×List UInt8)) (at_:Bool) (h f t:Int) (ks:List Part) (hk:strucok (k+1) s (Part.mk ty ps en at_ h f t ks)):
 Fstruct k (ks.length+ps.length+1) s ty ps en at_ h f t ks=some (.p (.str (strucS (k+1) s (Part.mk ty ps en at_ h f t ks))),[]):=by
 rw [strucok] at hk
 obtain ⟨h1,h2,h3,h4,h5,h6⟩:=hk
 change ty.length<=1000000 at h1
 change tok (cutS ty 47).2.1 at h2
 change ks.length<=10000000 at h3
 change (ks.flatMap (strucS k s)).length<=1000000000000 at h4
 change ∀ q ∈ ks,strucok k s q at h5
 change ks.length=0->leafok s ty ps en f t at h6
 rw [Fstruct_eq,strucS]
 refine need_mk h1 ?_
 by_cases hz:ks.length > 0
 .refine cond_t (decide_eq_true (by omega)) ?_
  rw [if_pos (show (Part.mk ty ps en at_ h f t ks).kids.length > 0 from hz),show (0:Int)=((0:Nat):Int) from rfl,struct_kids k _ s _ ks h3 h5 h2 ks _ 0 [40] rfl (by omega) (by omega) (by rw [List.length_cons,List.length_nil]; omega)]
  show _=some (AV.p (PV.str (((([40]:List UInt8)++ks.flatMap (strucS k s))++[32]++tstrS (cutS ty 47).2.1)++[41])),[])
  simp
 .refine cond_f (decide_eq_false (by omega)) ?_
  have hl:=h6 (by omega)
  rw [if_neg (show ¬ (Part.mk ty ps en at_ h f t ks).kids.length > 0 from hz)]
  show _=some (AV.p (PV.str ((([40]:List UInt8)++joinS [32] (leafL s ty ps en f t))++[41])),[])
  rw [<-struct_leaf k (ks.length+ps.length+1) s ty en at_ h f t ps ks h2 hl]
  by_cases hp:ps.length > 0
  .refine cond_t (decide_eq_true (by omega)) ?_
   rw [show (0:Int)=((0:Nat):Int) from rfl,struct_parm k _ s _ _ ty en at_ h f t ps ks hl.2.2.1 hl.2.2.2.1 ps _ 0 [] rfl (by omega) (by omega) (by simp) (by rw [List.nil_append]; exact hl.2.2.2.2.1)]
   rw [List.nil_append,parmT,if_pos hp]
  .refine cond_f (decide_eq_false (by omega)) ?_
   rw [parmT,if_neg hp]
theorem ok_struct:∀ k,SpecOk Tryz.prog 29 (sp_struct k)
 | 0=>by
  intro zs r ok he hok
  unfold sp_struct at he
  split at he
  .cases he; exact absurd hok (by simp [strucok])
  .cases he
 | k+1=>by
  intro zs r ok he hok
  unfold sp_struct at he
  split at he
  .cases he; exact ⟨by kernel_rfl,fn_struct k (ok_struct k) _ _ _ _ _ _ _ _ _ _ _ fun _=>struct_eq k _ _ _ _ _ _ _ _ _ hok⟩
  .cases he
end Go.Proofs.YtoanepondbagcaaGreatDoor
namespace Go.Proofs.YtoanepondbagcaaGreatDoor
open Go Go.Am
set_option linter.unusedVariables false
noncomputable def GstrucT:Cfg:=⟨Tryz.prog,mkEnv [(29,sp_struct 7),(30,sp_tree)],mkEnvR [],7,[],[],[]⟩
noncomputable def FstrucT (F:Nat) (s:List UInt8):Option Ans:=runF GstrucT Tryz.f13 F [.p (.str s)]
theorem FstrucT_eq (F:Nat) (s:List UInt8):FstrucT F s=need (s.length<=1000000) (need (strucok 7 s (Part.mk ((treeT s).type) ((treeT s).params) ((treeT s).enc) ((treeT s).attach) ((treeT s).head) ((treeT s).frm) ((treeT s).til) ((treeT s).kids))) (some (.p (.str (strucS 7 s (Part.mk ((treeT s).type) ((treeT s).params) ((treeT s).enc) ((treeT s).attach) ((treeT s).head) ((treeT s).frm) ((treeT s).til) ((treeT s).kids)))),[]))):=by kernel_rfl
theorem fn_strucT (F:Nat) (s:List UInt8) (r:AV) (h:(∃ M vs,ARels γ0 M [.p (.str s)] vs)->FstrucT F s=some (r,[])):FnP Tryz.prog 13 [.p (.str s)] r:=
 FnP_run GstrucT F rfl (EnvOk_mk (l:=[(29,sp_struct 7),(30,sp_tree)]) ⟨(ok_struct 7).any,ok_tree.any,trivial⟩) (EnvROk_mk (l:=[]) trivial) (Checked.mixed Tryz.checked) (fn:=Tryz.f13) (by kernel_rfl) (by kernel_rfl) rfl h
theorem strucT_eq (s:List UInt8) (h:s.length<=1000000/\strucok 7 s (treeT s)):FstrucT 0 s=some (.p (.str (strucS 7 s (treeT s))),[]):=by
 rw [FstrucT_eq,part_eta]
 exact need_mk h.1 (need_mk h.2 rfl)
def sp_strucT:List AV->Option (AV×Option Prop)
 | [.p (.str s)]=>some (.p (.str (strucS 7 s (treeT s))),some (s.length<=1000000/\strucok 7 s (treeT s)))
 | _=>none
theorem ok_strucT:SpecOk Tryz.prog 13 sp_strucT:=by
 intro zs r ok he hok
 unfold sp_strucT at he
 split at he
 .cases he; exact ⟨by kernel_rfl,fn_strucT 0 _ _ fun hx=>strucT_eq _ hok⟩
 .cases he
def mdT (x y:UInt8):List UInt8:=
 (((((((((((([77,101,115,115,97,103,101,45,73,68,58,32,60]:List UInt8)++[x])++([62,13,10,84,111,58,32]:List UInt8))++[y])++([64,104,13,10,83,117,98,106,101,99,116,58,32]:List UInt8))++[x])++([32]:List UInt8))++[y])++([13,10,70,114,111,109,58,32,78,32]:List UInt8))++[x])++([32,60]:List UInt8))++[y])++([64,103,62,13,10,13,10]:List UInt8)
def mdL (x y:UInt8):List (List UInt8×List UInt8):=[([77,101,115,115,97,103,101,45,73,68],[60,x,62]),([84,111],[y,64,104]),([83,117,98,106,101,99,116],[x,32,y]),([70,114,111,109],[78,32,x,32,60,y,64,103,62])]
def mdF (x y:UInt8):List UInt8:=(([40,40,34,78,32]++[x])++([34,32,78,73,76,32,34]:List UInt8)++[y])++([34,32,34,103,34,41,41]:List UInt8)
def ltr (n:Nat):UInt8:=UInt8.ofNat (97+n)
def chkL (n m:Nat):Bool:=decide ((splitS (mdT (ltr n) (ltr m)) 0 ((mdT (ltr n) (ltr m)).length:Int)).1=mdL (ltr n) (ltr m))
def tPlain:List UInt8:=[116,101,120,116,47,112,108,97,105,110]
def t7bit:List UInt8:=[55,98,105,116]
def chkP (n m:Nat):Bool:=match treeT (mdT (ltr n) (ltr m)) with
 | .mk ty ps en _ _ f t ks=>decide (ty=tPlain)&&ps.isEmpty&&decide (en=t7bit)&&decide (f=(mdT (ltr n) (ltr m)).length)&&decide (t=(mdT (ltr n) (ltr m)).length)&&ks.isEmpty
def mdA (x y:UInt8):List UInt8:=[78,32,x,32,60,y,64,103,62]
def chkA (n m:Nat):Bool:=decide (listA (mdA (ltr n) (ltr m))=[([78,32,ltr n],[ltr m],[103])])&&decide (listA [ltr m,64,104]=[([],[ltr m],[104])])
 &&tplainS [78,32,ltr n]&&tplainS [ltr m]&&tplainS [60,ltr n,62]&&tplainS [ltr n,32,ltr m]&&decide (escQ [78,32,ltr n]=[78,32,ltr n])&&decide (escQ [ltr m]=[ltr m])&&decide (escQ [60,ltr n,62]=[60,ltr n,62])&&decide (escQ [ltr n,32,ltr m]=[ltr n,32,ltr m])
 &&decide (shownS (wordS [ltr n,32,ltr m])=[ltr n,32,ltr m])
def allB (f:Nat->Nat->Bool):Bool:=(List.range 26).all fun n=>(List.range 26).all fun m=>f n m
theorem allB_get {f:Nat->Nat->Bool} (h:allB f=true) {n m:Nat} (hn:n < 26) (hm:m < 26):f n m=true:=by
 unfold allB at h
 exact List.all_eq_true.1 (List.all_eq_true.1 h n (List.mem_range.2 hn)) m (List.mem_range.2 hm)
set_option maxRecDepth 100000 in
theorem all_L:allB chkL=true:=by kernel_rfl
set_option maxRecDepth 100000 in
theorem all_A:allB chkA=true:=by kernel_rfl
set_option maxRecDepth 100000 in
theorem all_P:allB chkP=true:=by kernel_rfl
end Go.Proofs.YtoanepondbagcaaGreatDoor
