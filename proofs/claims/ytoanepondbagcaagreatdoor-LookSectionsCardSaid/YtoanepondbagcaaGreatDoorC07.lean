/-
  Lifted functions, and facts about them.
-/
import Derived.Test.YtoanepondbagcaaGreatDoorRows
import Derived.Test.YtoanepondbagcaaGreatDoorAmC
import Derived.Test.YtoanepondbagcaaGreatDoorC01
import Derived.Test.YtoanepondbagcaaGreatDoorC06
import Derived.Test.YtoanepondbagcaaGreatDoorC02
namespace Go.Proofs.YtoanepondbagcaaGreatDoor
open Go Go.Am
set_option linter.unusedVariables false
def nof (of:List UInt8) (c:UInt8):Bool:=!of.contains c
def untilS (s:List UInt8) (i:Int) (of:List UInt8):Int:=i+(((s.drop i.toNat).takeWhile (nof of)).length:Int)
abbrev untilok (s:List UInt8) (i:Int) (of:List UInt8):Prop:=0<=i/\i<=s.length/\s.length<=1000000/\of.length<=1000
theorem untilS_n (s:List UInt8) (i:Nat) (of:List UInt8):untilS s (i:Int) of=((i+((s.drop i).takeWhile (nof of)).length:Nat):Int):=by unfold untilS; rw [Int.toNat_natCast]; omega
theorem take_len {p:UInt8->Bool} (l:List UInt8):(l.takeWhile p).length<=l.length:=by
 induction l with
 | nil=>simp
 | cons c l ih=>rw [List.takeWhile_cons]; split <;> simp <;> omega
noncomputable def cuntil:Code:=bodyOf Tryz.f39
noncomputable def Guntil:Cfg:=⟨Tryz.prog,mkEnv [(22,sp_Index)],mkEnvR [],24,[],[([0,0,1],⟨[0,1,2],[]⟩),([1,0,0,0,0,1],⟨[0,1,2,20],[]⟩)],[]⟩
noncomputable def Buntil_1 (F f1:Nat) (s:List UInt8) (vi1:Int) (of:List UInt8):Option Ans:=runR Guntil cuntil (kP Tryz.prog Tryz.f39.results.toList) F [] [1,0,0] f1 [(0,.p (.str s)),(1,.p (.int .i64 vi1)),(2,.p (.str of))] []
noncomputable def Buntil_2 (F f1:Nat) (s:List UInt8) (vi1:Int) (of:List UInt8) (vc2:Bool):Option Ans:=runB Guntil cuntil (kP Tryz.prog Tryz.f39.results.toList) F [f1] [1,0,0,0,0,1] [(0,.p (.str s)),(1,.p (.int .i64 vi1)),(2,.p (.str of)),(20,.p (.bool vc2))] []
noncomputable def Funtil (F:Nat) (s:List UInt8) (i:Int) (of:List UInt8):Option Ans:=runF Guntil Tryz.f39 F [.p (.str s),.p (.int .i64 i),.p (.str of)]
theorem Buntil_1_eq (F f1:Nat) (s:List UInt8) (vi1:Int) (of:List UInt8):Buntil_1 F (f1+1) s vi1 of=need ((decide (vi1 < (s.length:Int)))=true->i64ok (vi1+(1:Int))) (need ((decide (vi1 < (s.length:Int)))=true->0<=vi1/\vi1<=(vi1+(1:Int))/\(vi1+(1:Int))<=(s.length:Int)) (need ((decide (vi1 < (s.length:Int)))=true->indexok of ((s.take (vi1+(1:Int)).toNat).drop (vi1).toNat) (0:Int)) (Buntil_2 F f1 s vi1 of ((decide (vi1 < (s.length:Int)))&&(decide ((indexS of ((s.take (vi1+(1:Int)).toNat).drop (vi1).toNat) (0:Int)) < (0:Int))))))):=
 Eq.trans (show Buntil_1 F (f1+1) s vi1 of=need ((decide (vi1 < (s.length:Int)))=true->(decide (vi1 < (s.length:Int)))=true) (need ((decide (vi1 < (s.length:Int)))=true->i64ok (vi1+(1:Int))) (need ((decide (vi1 < (s.length:Int)))=true->(decide (vi1 < (s.length:Int)))=true) (need ((decide (vi1 < (s.length:Int)))=true->(decide (vi1 < (s.length:Int)))=true) (need ((decide (vi1 < (s.length:Int)))=true->(decide (vi1 < (s.length:Int)))=true) (need ((decide (vi1 < (s.length:Int)))=true->0<=vi1/\vi1<=(vi1+(1:Int))/\(vi1+(1:Int))<=(s.length:Int)) (need ((decide (vi1 < (s.length:Int)))=true->(decide (vi1 < (s.length:Int)))=true) (need ((decide (vi1 < (s.length:Int)))=true->(decide (vi1 < (s.length:Int)))=true) (need ((decide (vi1 < (s.length:Int)))=true->indexok of ((s.take (vi1+(1:Int)).toNat).drop (vi1).toNat) (0:Int)) (need ((decide (vi1 < (s.length:Int)))=true->(decide (vi1 < (s.length:Int)))=true) (need ((decide (vi1 < (s.length:Int)))=true->(decide (vi1 < (s.length:Int)))=true) (Buntil_2 F f1 s vi1 of ((decide (vi1 < (s.length:Int)))&&(decide ((indexS of ((s.take (vi1+(1:Int)).toNat).drop (vi1).toNat) (0:Int)) < (0:Int))))))))))))))) by kernel_rfl) (need_strike (show (decide (vi1 < (s.length:Int)))=true->(decide (vi1 < (s.length:Int)))=true from (fun q0=>q0)) (need_congr (need_strike (show (decide (vi1 < (s.length:Int)))=true->(decide (vi1 < (s.length:Int)))=true from (fun q0=>q0)) (need_strike (show (decide (vi1 < (s.length:Int)))=true->(decide (vi1 < (s.length:Int)))=true from (fun q0=>q0)) (need_strike (show (decide (vi1 < (s.length:Int)))=true->(decide (vi1 < (s.length:Int)))=true from (fun q0=>q0)) (need_congr (need_strike (show (decide (vi1 < (s.length:Int)))=true->(decide (vi1 < (s.length:Int)))=true from (fun q0=>q0)) (need_strike (show (decide (vi1 < (s.length:Int)))=true->(decide (vi1 < (s.length:Int)))=true from (fun q0=>q0)) (need_congr (need_strike (show (decide (vi1 < (s.length:Int)))=true->(decide (vi1 < (s.length:Int)))=true from (fun q0=>q0)) (need_strike (show (decide (vi1 < (s.length:Int)))=true->(decide (vi1 < (s.length:Int)))=true from (fun q0=>q0)) (rfl))))))))))))
theorem Buntil_2_eq (F f1:Nat) (s:List UInt8) (vi1:Int) (of:List UInt8) (vc2:Bool):Buntil_2 F f1 s vi1 of vc2=cond (vc2) (need (i64ok (vi1+(1:Int))) (Buntil_1 F f1 s (vi1+(1:Int)) of)) (some (.p (.int .i64 vi1),[])):=by kernel_rfl
theorem Funtil_eq (F:Nat) (s:List UInt8) (i:Int) (of:List UInt8):Funtil F s i of=Buntil_1 F F s i of:=by kernel_rfl
theorem fn_until (F:Nat) (s:List UInt8) (i:Int) (of:List UInt8) (r:AV) (h:(∃ M vs,ARels γ0 M [.p (.str s),.p (.int .i64 i),.p (.str of)] vs)->Funtil F s i of=some (r,[])):FnP Tryz.prog 39 [.p (.str s),.p (.int .i64 i),.p (.str of)] r:=
 FnP_run Guntil F rfl (EnvOk_mk (l:=[(22,sp_Index)]) ⟨ok_Index.any,trivial⟩) (EnvROk_mk (l:=[]) trivial) (Checked.mixed Tryz.checked) (fn:=Tryz.f39) (by kernel_rfl) (by kernel_rfl) rfl h
theorem ixb_has (of:List UInt8) (c:UInt8):decide (Lib.indexByte of c < 0)=nof of c:=by
 unfold nof
 rw [Lib.contains_iff_indexByte]
 by_cases h:0<=Lib.indexByte of c
 .rw [decide_eq_true h,decide_eq_false (by omega)]; rfl
 .rw [decide_eq_false h,decide_eq_true (by omega)]; rfl
theorem Buntil_spec (F:Nat) (s of:List UInt8) (hs:s.length<=1000000) (ho:of.length<=1000):∀ (r:List UInt8) (f i:Nat),s.drop i=r->r.length < f->i<=s.length->
 Buntil_1 F f s (i:Int) of=some (.p (.int .i64 ((i:Int)+((r.takeWhile (nof of)).length:Int))),[]):=by
 intro r
 induction r with
 | nil=>
  intro f i hd hf hi
  have hl:i=s.length:=by have:=congrArg List.length hd; simp at this; omega
  cases f with
  | zero=>omega
  | succ f=>
   have hd0:decide ((i:Int) < (s.length:Int))=false:=decide_eq_false (by omega)
   rw [Buntil_1_eq,hd0]
   refine need_mk (fun h=>by cases h) (need_mk (fun h=>by cases h) (need_mk (fun h=>by cases h) ?_))
   rw [Buntil_2_eq]
   exact cond_f rfl (by simp)
 | cons c r ih=>
  intro f i hd hf hi
  obtain ⟨h1,h2,h3⟩:=drop_cons hd
  cases f with
  | zero=>omega
  | succ f=>
   have hd0:decide ((i:Int) < (s.length:Int))=true:=decide_eq_true (by omega)
   have e1:(s.take (i+1)).drop i=[c]:=by
    have:s.take (i+1)=s.take i++[c]:=by
     have hg:s[i]?=some c:=by
      have:(s.drop i)[0]?=some c:=by rw [hd]; rfl
      simpa using this
     rw [List.take_add_one,hg]; rfl
    rw [this,List.drop_left' (by simp; omega)]
   rw [Buntil_1_eq,hd0,show (i:Int)+1=((i+1:Nat):Int) by omega,Int.toNat_natCast,Int.toNat_natCast,e1,indexS_one,ixb_has]
   refine need_mk (fun _=>by unfold i64ok; omega) (need_mk (fun _=>⟨by omega,by omega,by omega⟩) (need_mk (fun _=>⟨by omega,by omega,by simp; omega⟩) ?_))
   rw [Buntil_2_eq,List.takeWhile_cons]
   cases hc:nof of c with
   | false=>exact cond_f rfl (by simp)
   | true=>
    refine cond_t rfl (need_mk (by unfold i64ok; omega) ?_)
    rw [show (i:Int)+1=((i+1:Nat):Int) by omega,ih f (i+1) h2 (by simp at hf; omega) (by omega),if_pos rfl]
    rw [show ((i+1:Nat):Int)+((r.takeWhile (nof of)).length:Int)=(i:Int)+((c::r.takeWhile (nof of)).length:Int) by simp only [List.length_cons]; omega]
theorem until_eq (s:List UInt8) (i:Int) (of:List UInt8) (h:untilok s i of):Funtil (s.length+1) s i of=some (.p (.int .i64 (untilS s i of)),[]):=by
 obtain ⟨h0,h1,h2,h3⟩:=h
 obtain ⟨n,rfl⟩:=Int.eq_ofNat_of_zero_le h0
 rw [Funtil_eq]
 have:=Buntil_spec (s.length+1) s of h2 h3 (s.drop n) (s.length+1) n rfl (by simp; omega) (by omega)
 rw [this]
 unfold untilS
 rw [Int.toNat_natCast]
def sp_until:List AV->Option (AV×Option Prop)
 | [.p (.str s),.p (.int .i64 i),.p (.str of)]=>some (.p (.int .i64 (untilS s i of)),some (untilok s i of))
 | _=>none
theorem ok_until:SpecOk Tryz.prog 39 sp_until:=by
 intro zs r ok he hok
 unfold sp_until at he
 split at he
 .cases he; exact ⟨by kernel_rfl,fn_until (_) _ _ _ _ fun hx=>until_eq _ _ _ hok⟩
 .cases he
noncomputable def cr13values:Code:=bodyOf Tryz.f110
noncomputable def Gr13values:Cfg:=⟨Tryz.prog,mkEnv [(39,sp_until),(108,sp_r7trim),(112,sp_rFold)],mkEnvR [],154,[],[([0,0,1,1,1,1],⟨[0,4,5,6],[⟨.slot 6,6,(.larr 76 false 2 (.dat (.pair .str .str) ([]:List (List UInt8×List UInt8))))⟩]⟩),([0,0,1,0,1,0,0,0,1,1,1,1],⟨[0,5,6,7],[⟨.slot 6,6,(.larr 76 false 2 (.dat (.pair .str .str) ([]:List (List UInt8×List UInt8))))⟩]⟩),([1,0,0,0,0,1,0,1,0,0,0,1,1,1,1],⟨[0,5,6,7,39],[⟨.slot 6,6,(.larr 76 false 2 (.dat (.pair .str .str) ([]:List (List UInt8×List UInt8))))⟩]⟩),([1,0,1,1,1,1,1,0,1,0,0,0,1,1,1,1],⟨[0,4,5,6,8,9,62],[⟨.slot 6,6,(.larr 76 false 2 (.dat (.pair .str .str) ([]:List (List UInt8×List UInt8))))⟩,⟨.slot 9,9,.cells []⟩]⟩),([0,0,1,0,1,0,1,1,1,1,1,0,1,0,0,0,1,1,1,1],⟨[0,5,6,7,9],[⟨.slot 6,6,(.larr 76 false 2 (.dat (.pair .str .str) ([]:List (List UInt8×List UInt8))))⟩,⟨.slot 9,9,.cells []⟩]⟩),([1,0,0,0,0,1,0,1,0,1,1,1,1,1,0,1,0,0,0,1,1,1,1],⟨[0,5,6,7,9,80],[⟨.slot 6,6,(.larr 76 false 2 (.dat (.pair .str .str) ([]:List (List UInt8×List UInt8))))⟩,⟨.slot 9,9,.cells []⟩]⟩),([1,1,1,0,1,0,1,1,1,1,1,0,1,0,0,0,1,1,1,1],⟨[0,5,6,7,9,92],[⟨.slot 6,6,(.larr 76 false 2 (.dat (.pair .str .str) ([]:List (List UInt8×List UInt8))))⟩,⟨.slot 9,9,.cells []⟩]⟩),([0,0,1,1,0,1,1,1,0,1,0,1,1,1,1,1,0,1,0,0,0,1,1,1,1],⟨[0,5,6,7,9,10],[⟨.slot 6,6,(.larr 76 false 2 (.dat (.pair .str .str) ([]:List (List UInt8×List UInt8))))⟩,⟨.slot 9,9,.cells []⟩,⟨.slot 10,10,(.barr 5 false [])⟩]⟩),([1,0,0,0,0,1,1,0,1,1,1,0,1,0,1,1,1,1,1,0,1,0,0,0,1,1,1,1],⟨[0,5,6,7,9,10,104],[⟨.slot 6,6,(.larr 76 false 2 (.dat (.pair .str .str) ([]:List (List UInt8×List UInt8))))⟩,⟨.slot 9,9,.cells []⟩,⟨.slot 10,10,(.barr 5 false [])⟩]⟩),([1,0,0,1,0,0,0,1,1,0,1,1,1,0,1,0,1,1,1,1,1,0,1,0,0,0,1,1,1,1],⟨[0,5,6,7,9,10,115],[⟨.slot 6,6,(.larr 76 false 2 (.dat (.pair .str .str) ([]:List (List UInt8×List UInt8))))⟩,⟨.slot 9,9,.cells []⟩,⟨.slot 10,10,(.barr 5 false [])⟩]⟩),([1,0,1,0,0,0,1,1,0,1,1,1,0,1,0,1,1,1,1,1,0,1,0,0,0,1,1,1,1],⟨[0,5,6,7,9,10],[⟨.slot 6,6,(.larr 76 false 2 (.dat (.pair .str .str) ([]:List (List UInt8×List UInt8))))⟩,⟨.slot 9,9,.cells []⟩,⟨.slot 10,10,(.barr 5 false [])⟩]⟩),([1,1,1,1,1,1,0,1,0,0,0,1,1,1,1],⟨[0,4,5,6,9],[⟨.slot 6,6,(.larr 76 false 2 (.dat (.pair .str .str) ([]:List (List UInt8×List UInt8))))⟩,⟨.slot 9,9,.cells []⟩]⟩)],[]⟩
noncomputable def Br13values_1 (F f1:Nat) (s:List UInt8) (vi1:Int) (vs2:List UInt8) (vl3:List (List UInt8×List UInt8)):Option Ans:=runR Gr13values cr13values (kP Tryz.prog Tryz.f110.results.toList) F [] [1,1,1,1,0,0] f1 [(0,.p (.str s)),(4,.p (.int .i64 vi1)),(5,.p (.str vs2)),(6,.arr 6)] [(6,.larr 76 false 2 (.dat (.pair .str .str) vl3))]
noncomputable def Br13values_2 (F f1 f2:Nat) (s vs2:List UInt8) (vi4:Int) (vl3:List (List UInt8×List UInt8)):Option Ans:=runR Gr13values cr13values (kP Tryz.prog Tryz.f110.results.toList) F [f1] [1,1,1,1,0,0,0,1,0,1,0,0] f2 [(0,.p (.str s)),(5,.p (.str vs2)),(6,.arr 6),(7,.p (.int .i64 vi4))] [(6,.larr 76 false 2 (.dat (.pair .str .str) vl3))]
noncomputable def Br13values_3 (F f1 f2:Nat) (s vs2:List UInt8) (vi4:Int) (vc5:Bool) (vl3:List (List UInt8×List UInt8)):Option Ans:=runB Gr13values cr13values (kP Tryz.prog Tryz.f110.results.toList) F [f1,f2] [1,1,1,1,0,0,0,1,0,1,0,0,0,0,1] [(0,.p (.str s)),(5,.p (.str vs2)),(6,.arr 6),(7,.p (.int .i64 vi4)),(39,.p (.bool vc5))] [(6,.larr 76 false 2 (.dat (.pair .str .str) vl3))]
noncomputable def Br13values_4 (F f1:Nat) (s:List UInt8) (vi6:Int) (vs2:List UInt8) (vi7:Int) (vc8:Bool) (vl3:List (List UInt8×List UInt8)) (vs9:List UInt8):Option Ans:=runB Gr13values cr13values (kP Tryz.prog Tryz.f110.results.toList) F [f1] [1,1,1,1,0,0,0,1,0,1,1,1,1,1,0,1] [(0,.p (.str s)),(4,.p (.int .i64 vi6)),(5,.p (.str vs2)),(6,.arr 6),(8,.p (.int .i64 vi7)),(9,.ref 9 0),(62,.p (.bool vc8))] [(6,.larr 76 false 2 (.dat (.pair .str .str) vl3)),(9,.cells [.p (.str vs9),.p (.str ([]:List UInt8))])]
noncomputable def Br13values_5 (F f1 f3:Nat) (s vs2:List UInt8) (vi10:Int) (vl3:List (List UInt8×List UInt8)) (vs9:List UInt8):Option Ans:=runR Gr13values cr13values (kP Tryz.prog Tryz.f110.results.toList) F [f1] [1,1,1,1,0,0,0,1,0,1,1,1,1,1,0,1,0,1,0,0] f3 [(0,.p (.str s)),(5,.p (.str vs2)),(6,.arr 6),(7,.p (.int .i64 vi10)),(9,.ref 9 0)] [(6,.larr 76 false 2 (.dat (.pair .str .str) vl3)),(9,.cells [.p (.str vs9),.p (.str ([]:List UInt8))])]
noncomputable def Br13values_6 (F f1 f3:Nat) (s vs2:List UInt8) (vi10:Int) (vc11:Bool) (vl3:List (List UInt8×List UInt8)) (vs9:List UInt8):Option Ans:=runB Gr13values cr13values (kP Tryz.prog Tryz.f110.results.toList) F [f1,f3] [1,1,1,1,0,0,0,1,0,1,1,1,1,1,0,1,0,1,0,0,0,0,1] [(0,.p (.str s)),(5,.p (.str vs2)),(6,.arr 6),(7,.p (.int .i64 vi10)),(9,.ref 9 0),(80,.p (.bool vc11))] [(6,.larr 76 false 2 (.dat (.pair .str .str) vl3)),(9,.cells [.p (.str vs9),.p (.str ([]:List UInt8))])]
noncomputable def Br13values_7 (F f1:Nat) (s vs2:List UInt8) (vi10:Int) (vc12:Bool) (vl3:List (List UInt8×List UInt8)) (vs9:List UInt8):Option Ans:=runB Gr13values cr13values (kP Tryz.prog Tryz.f110.results.toList) F [f1] [1,1,1,1,0,0,0,1,0,1,1,1,1,1,0,1,0,1,1,1] [(0,.p (.str s)),(5,.p (.str vs2)),(6,.arr 6),(7,.p (.int .i64 vi10)),(9,.ref 9 0),(92,.p (.bool vc12))] [(6,.larr 76 false 2 (.dat (.pair .str .str) vl3)),(9,.cells [.p (.str vs9),.p (.str ([]:List UInt8))])]
noncomputable def Br13values_8 (F f1 f4:Nat) (s vs2:List UInt8) (vi13:Int) (vl14:List (List UInt8×List UInt8)) (vs15 vs16 vb17:List UInt8):Option Ans:=runR Gr13values cr13values (kP Tryz.prog Tryz.f110.results.toList) F [f1] [1,1,1,1,0,0,0,1,0,1,1,1,1,1,0,1,0,1,1,1,0,1,1,0,0] f4 [(0,.p (.str s)),(5,.p (.str vs2)),(6,.arr 6),(7,.p (.int .i64 vi13)),(9,.ref 9 0),(10,.arr 10)] [(6,.larr 76 false 2 (.dat (.pair .str .str) vl14)),(9,.cells [.p (.str vs15),.p (.str vs16)]),(10,.barr 5 false vb17)]
noncomputable def Br13values_9 (F f1 f4:Nat) (s vs2:List UInt8) (vi13:Int) (vc18:Bool) (vl14:List (List UInt8×List UInt8)) (vs15 vs16 vb17:List UInt8):Option Ans:=runB Gr13values cr13values (kP Tryz.prog Tryz.f110.results.toList) F [f1,f4] [1,1,1,1,0,0,0,1,0,1,1,1,1,1,0,1,0,1,1,1,0,1,1,0,0,0,0,1] [(0,.p (.str s)),(5,.p (.str vs2)),(6,.arr 6),(7,.p (.int .i64 vi13)),(9,.ref 9 0),(10,.arr 10),(104,.p (.bool vc18))] [(6,.larr 76 false 2 (.dat (.pair .str .str) vl14)),(9,.cells [.p (.str vs15),.p (.str vs16)]),(10,.barr 5 false vb17)]
noncomputable def Br13values_10 (F f1 f4:Nat) (s vs2:List UInt8) (vi13:Int) (vc19:Bool) (vl14:List (List UInt8×List UInt8)) (vs15 vs16 vb17:List UInt8):Option Ans:=runB Gr13values cr13values (kP Tryz.prog Tryz.f110.results.toList) F [f1,f4] [1,1,1,1,0,0,0,1,0,1,1,1,1,1,0,1,0,1,1,1,0,1,1,0,0,0,1,0,0,1] [(0,.p (.str s)),(5,.p (.str vs2)),(6,.arr 6),(7,.p (.int .i64 vi13)),(9,.ref 9 0),(10,.arr 10),(115,.p (.bool vc19))] [(6,.larr 76 false 2 (.dat (.pair .str .str) vl14)),(9,.cells [.p (.str vs15),.p (.str vs16)]),(10,.barr 5 false vb17)]
noncomputable def Br13values_11 (F f1 f4:Nat) (s vs2:List UInt8) (vi20:Int) (vl14:List (List UInt8×List UInt8)) (vs15 vs16 vb17:List UInt8):Option Ans:=runB Gr13values cr13values (kP Tryz.prog Tryz.f110.results.toList) F [f1,f4] [1,1,1,1,0,0,0,1,0,1,1,1,1,1,0,1,0,1,1,1,0,1,1,0,0,0,1,0,1] [(0,.p (.str s)),(5,.p (.str vs2)),(6,.arr 6),(7,.p (.int .i64 vi20)),(9,.ref 9 0),(10,.arr 10)] [(6,.larr 76 false 2 (.dat (.pair .str .str) vl14)),(9,.cells [.p (.str vs15),.p (.str vs16)]),(10,.barr 5 false vb17)]
noncomputable def Br13values_12 (F f1:Nat) (s:List UInt8) (vi21:Int) (vs2:List UInt8) (vl22:List (List UInt8×List UInt8)) (vs23 vs24:List UInt8):Option Ans:=runB Gr13values cr13values (kP Tryz.prog Tryz.f110.results.toList) F [f1] [1,1,1,1,0,0,0,1,0,1,1,1,1,1,1] [(0,.p (.str s)),(4,.p (.int .i64 vi21)),(5,.p (.str vs2)),(6,.arr 6),(9,.ref 9 0)] [(6,.larr 76 false 2 (.dat (.pair .str .str) vl22)),(9,.cells [.p (.str vs23),.p (.str vs24)])]
noncomputable def Fr13values (F:Nat) (s:List UInt8):Option Ans:=runF Gr13values Tryz.f110 F [.p (.str s)]
theorem Br13values_1_eq (F f1:Nat) (s:List UInt8) (vi1:Int) (vs2:List UInt8) (vl3:List (List UInt8×List UInt8)):Br13values_1 F (f1+1) s vi1 vs2 vl3=cond (decide (vi1 < (s.length:Int))) (need (i64ok (vi1+(1:Int))) (Br13values_2 F f1 f1 s vs2 (vi1+(1:Int)) vl3)) (some (.tup [.p (.str vs2),.p (.list 2 (.dat (.pair .str .str) vl3))],[])):=by kernel_rfl
theorem Br13values_2_eq (F f1 f2:Nat) (s vs2:List UInt8) (vi4:Int) (vl3:List (List UInt8×List UInt8)):Br13values_2 F f1 (f2+1) s vs2 vi4 vl3=need ((decide (vi4 < (s.length:Int)))=true->0<=vi4/\vi4 < (s.length:Int)) (need (((decide (vi4 < (s.length:Int)))&&(!(((s.getD (vi4).toNat 0).toNat:Int)==(32:Int))))=true->0<=vi4/\vi4 < (s.length:Int)) (Br13values_3 F f1 f2 s vs2 vi4 ((decide (vi4 < (s.length:Int)))&&((((s.getD (vi4).toNat 0).toNat:Int)==(32:Int))||(((s.getD (vi4).toNat 0).toNat:Int)==(9:Int)))) vl3)):=
 Eq.trans (show Br13values_2 F f1 (f2+1) s vs2 vi4 vl3=need ((decide (vi4 < (s.length:Int)))=true->(decide (vi4 < (s.length:Int)))=true) (need ((decide (vi4 < (s.length:Int)))=true->(decide (vi4 < (s.length:Int)))=true) (need ((decide (vi4 < (s.length:Int)))=true->0<=vi4/\vi4 < (s.length:Int)) (need ((decide (vi4 < (s.length:Int)))=true->(decide (vi4 < (s.length:Int)))=true) (need ((decide (vi4 < (s.length:Int)))=true->(decide (vi4 < (s.length:Int)))=true) (need (((decide (vi4 < (s.length:Int)))&&(!(((s.getD (vi4).toNat 0).toNat:Int)==(32:Int))))=true->((decide (vi4 < (s.length:Int)))&&(!(((s.getD (vi4).toNat 0).toNat:Int)==(32:Int))))=true) (need (((decide (vi4 < (s.length:Int)))&&(!(((s.getD (vi4).toNat 0).toNat:Int)==(32:Int))))=true->((decide (vi4 < (s.length:Int)))&&(!(((s.getD (vi4).toNat 0).toNat:Int)==(32:Int))))=true) (need (((decide (vi4 < (s.length:Int)))&&(!(((s.getD (vi4).toNat 0).toNat:Int)==(32:Int))))=true->0<=vi4/\vi4 < (s.length:Int)) (need (((decide (vi4 < (s.length:Int)))&&(!(((s.getD (vi4).toNat 0).toNat:Int)==(32:Int))))=true->((decide (vi4 < (s.length:Int)))&&(!(((s.getD (vi4).toNat 0).toNat:Int)==(32:Int))))=true) (need ((decide (vi4 < (s.length:Int)))=true->(decide (vi4 < (s.length:Int)))=true) (need ((decide (vi4 < (s.length:Int)))=true->(((s.getD (vi4).toNat 0).toNat:Int)==(32:Int))=false->((decide (vi4 < (s.length:Int)))&&(!(((s.getD (vi4).toNat 0).toNat:Int)==(32:Int))))=true) (need ((decide (vi4 < (s.length:Int)))=true->(decide (vi4 < (s.length:Int)))=true) (Br13values_3 F f1 f2 s vs2 vi4 ((decide (vi4 < (s.length:Int)))&&((((s.getD (vi4).toNat 0).toNat:Int)==(32:Int))||(((s.getD (vi4).toNat 0).toNat:Int)==(9:Int)))) vl3)))))))))))) by kernel_rfl) (need_strike (show (decide (vi4 < (s.length:Int)))=true->(decide (vi4 < (s.length:Int)))=true from (fun q0=>q0)) (need_strike (show (decide (vi4 < (s.length:Int)))=true->(decide (vi4 < (s.length:Int)))=true from (fun q0=>q0)) (need_congr (need_strike (show (decide (vi4 < (s.length:Int)))=true->(decide (vi4 < (s.length:Int)))=true from (fun q0=>q0)) (need_strike (show (decide (vi4 < (s.length:Int)))=true->(decide (vi4 < (s.length:Int)))=true from (fun q0=>q0)) (need_strike (show ((decide (vi4 < (s.length:Int)))&&(!(((s.getD (vi4).toNat 0).toNat:Int)==(32:Int))))=true->((decide (vi4 < (s.length:Int)))&&(!(((s.getD (vi4).toNat 0).toNat:Int)==(32:Int))))=true from (fun q0=>q0)) (need_strike (show ((decide (vi4 < (s.length:Int)))&&(!(((s.getD (vi4).toNat 0).toNat:Int)==(32:Int))))=true->((decide (vi4 < (s.length:Int)))&&(!(((s.getD (vi4).toNat 0).toNat:Int)==(32:Int))))=true from (fun q0=>q0)) (need_congr (need_strike (show ((decide (vi4 < (s.length:Int)))&&(!(((s.getD (vi4).toNat 0).toNat:Int)==(32:Int))))=true->((decide (vi4 < (s.length:Int)))&&(!(((s.getD (vi4).toNat 0).toNat:Int)==(32:Int))))=true from (fun q0=>q0)) (need_strike (show (decide (vi4 < (s.length:Int)))=true->(decide (vi4 < (s.length:Int)))=true from (fun q0=>q0)) (need_strike (show (decide (vi4 < (s.length:Int)))=true->(((s.getD (vi4).toNat 0).toNat:Int)==(32:Int))=false->((decide (vi4 < (s.length:Int)))&&(!(((s.getD (vi4).toNat 0).toNat:Int)==(32:Int))))=true from (fun q0 q1=>(and_mk q0 (not_mk q1)))) (need_strike (show (decide (vi4 < (s.length:Int)))=true->(decide (vi4 < (s.length:Int)))=true from (fun q0=>q0)) (rfl)))))))))))))
theorem Br13values_3_eq (F f1 f2:Nat) (s vs2:List UInt8) (vi4:Int) (vc5:Bool) (vl3:List (List UInt8×List UInt8)):Br13values_3 F f1 f2 s vs2 vi4 vc5 vl3=cond (vc5) (need (i64ok (vi4+(1:Int))) (Br13values_2 F f1 f2 s vs2 (vi4+(1:Int)) vl3)) (need (untilok s vi4 ([61,59]:List UInt8)) (need (0<=vi4/\vi4<=(untilS s vi4 ([61,59]:List UInt8))/\(untilS s vi4 ([61,59]:List UInt8))<=(s.length:Int)) (need (((s.take (untilS s vi4 ([61,59]:List UInt8)).toNat).drop (vi4).toNat).length<=1000000) (need ((trimBl ((s.take (untilS s vi4 ([61,59]:List UInt8)).toNat).drop (vi4).toNat)).length<=140737488355328) (((need ((decide ((untilS s vi4 ([61,59]:List UInt8)) < (s.length:Int)))=true->0<=(untilS s vi4 ([61,59]:List UInt8))/\(untilS s vi4 ([61,59]:List UInt8)) < (s.length:Int)) (((Br13values_4 F f1 s (untilS s vi4 ([61,59]:List UInt8)) vs2 (untilS s vi4 ([61,59]:List UInt8)) ((decide ((untilS s vi4 ([61,59]:List UInt8)) < (s.length:Int)))&&(((s.getD (untilS s vi4 ([61,59]:List UInt8)).toNat 0).toNat:Int)==(61:Int))) vl3 (foldS (trimBl ((s.take (untilS s vi4 ([61,59]:List UInt8)).toNat).drop (vi4).toNat))))))))))))):=by
 have h:Br13values_3 F f1 f2 s vs2 vi4 vc5 vl3=cond (vc5) (need (i64ok (vi4+(1:Int))) (Br13values_2 F f1 f2 s vs2 (vi4+(1:Int)) vl3)) (need (untilok s vi4 ([61,59]:List UInt8)) (need (0<=vi4/\vi4<=(untilS s vi4 ([61,59]:List UInt8))/\(untilS s vi4 ([61,59]:List UInt8))<=(s.length:Int)) (need (((s.take (untilS s vi4 ([61,59]:List UInt8)).toNat).drop (vi4).toNat).length<=1000000) (need ((trimBl ((s.take (untilS s vi4 ([61,59]:List UInt8)).toNat).drop (vi4).toNat)).length<=140737488355328) (need ((decide ((untilS s vi4 ([61,59]:List UInt8)) < (s.length:Int)))=true->(decide ((untilS s vi4 ([61,59]:List UInt8)) < (s.length:Int)))=true) (need ((decide ((untilS s vi4 ([61,59]:List UInt8)) < (s.length:Int)))=true->(decide ((untilS s vi4 ([61,59]:List UInt8)) < (s.length:Int)))=true) (need ((decide ((untilS s vi4 ([61,59]:List UInt8)) < (s.length:Int)))=true->0<=(untilS s vi4 ([61,59]:List UInt8))/\(untilS s vi4 ([61,59]:List UInt8)) < (s.length:Int)) (need ((decide ((untilS s vi4 ([61,59]:List UInt8)) < (s.length:Int)))=true->(decide ((untilS s vi4 ([61,59]:List UInt8)) < (s.length:Int)))=true) (need ((decide ((untilS s vi4 ([61,59]:List UInt8)) < (s.length:Int)))=true->(decide ((untilS s vi4 ([61,59]:List UInt8)) < (s.length:Int)))=true) (Br13values_4 F f1 s (untilS s vi4 ([61,59]:List UInt8)) vs2 (untilS s vi4 ([61,59]:List UInt8)) ((decide ((untilS s vi4 ([61,59]:List UInt8)) < (s.length:Int)))&&(((s.getD (untilS s vi4 ([61,59]:List UInt8)).toNat 0).toNat:Int)==(61:Int))) vl3 (foldS (trimBl ((s.take (untilS s vi4 ([61,59]:List UInt8)).toNat).drop (vi4).toNat))))))))))))):=by kernel_rfl
 rw [h,need_pos (show (decide ((untilS s vi4 ([61,59]:List UInt8)) < (s.length:Int)))=true->(decide ((untilS s vi4 ([61,59]:List UInt8)) < (s.length:Int)))=true from (fun q0=>q0)),need_pos (show (decide ((untilS s vi4 ([61,59]:List UInt8)) < (s.length:Int)))=true->(decide ((untilS s vi4 ([61,59]:List UInt8)) < (s.length:Int)))=true from (fun q0=>q0)),need_pos (show (decide ((untilS s vi4 ([61,59]:List UInt8)) < (s.length:Int)))=true->(decide ((untilS s vi4 ([61,59]:List UInt8)) < (s.length:Int)))=true from (fun q0=>q0)),need_pos (show (decide ((untilS s vi4 ([61,59]:List UInt8)) < (s.length:Int)))=true->(decide ((untilS s vi4 ([61,59]:List UInt8)) < (s.length:Int)))=true from (fun q0=>q0))]
theorem Br13values_4_eq (F f1:Nat) (s:List UInt8) (vi6:Int) (vs2:List UInt8) (vi7:Int) (vc8:Bool) (vl3:List (List UInt8×List UInt8)) (vs9:List UInt8):Br13values_4 F f1 s vi6 vs2 vi7 vc8 vl3 vs9=cond (vc8) (need (i64ok (vi7+(1:Int))) (Br13values_5 F f1 f1 s vs2 (vi7+(1:Int)) vl3 vs9)) (Br13values_12 F f1 s vi6 vs2 vl3 vs9 ([]:List UInt8)):=by kernel_rfl
theorem Br13values_5_eq (F f1 f3:Nat) (s vs2:List UInt8) (vi10:Int) (vl3:List (List UInt8×List UInt8)) (vs9:List UInt8):Br13values_5 F f1 (f3+1) s vs2 vi10 vl3 vs9=need ((decide (vi10 < (s.length:Int)))=true->0<=vi10/\vi10 < (s.length:Int)) (need (((decide (vi10 < (s.length:Int)))&&(!(((s.getD (vi10).toNat 0).toNat:Int)==(32:Int))))=true->0<=vi10/\vi10 < (s.length:Int)) (Br13values_6 F f1 f3 s vs2 vi10 ((decide (vi10 < (s.length:Int)))&&((((s.getD (vi10).toNat 0).toNat:Int)==(32:Int))||(((s.getD (vi10).toNat 0).toNat:Int)==(9:Int)))) vl3 vs9)):=
 Eq.trans (show Br13values_5 F f1 (f3+1) s vs2 vi10 vl3 vs9=need ((decide (vi10 < (s.length:Int)))=true->(decide (vi10 < (s.length:Int)))=true) (need ((decide (vi10 < (s.length:Int)))=true->(decide (vi10 < (s.length:Int)))=true) (need ((decide (vi10 < (s.length:Int)))=true->0<=vi10/\vi10 < (s.length:Int)) (need ((decide (vi10 < (s.length:Int)))=true->(decide (vi10 < (s.length:Int)))=true) (need ((decide (vi10 < (s.length:Int)))=true->(decide (vi10 < (s.length:Int)))=true) (need (((decide (vi10 < (s.length:Int)))&&(!(((s.getD (vi10).toNat 0).toNat:Int)==(32:Int))))=true->((decide (vi10 < (s.length:Int)))&&(!(((s.getD (vi10).toNat 0).toNat:Int)==(32:Int))))=true) (need (((decide (vi10 < (s.length:Int)))&&(!(((s.getD (vi10).toNat 0).toNat:Int)==(32:Int))))=true->((decide (vi10 < (s.length:Int)))&&(!(((s.getD (vi10).toNat 0).toNat:Int)==(32:Int))))=true) (need (((decide (vi10 < (s.length:Int)))&&(!(((s.getD (vi10).toNat 0).toNat:Int)==(32:Int))))=true->0<=vi10/\vi10 < (s.length:Int)) (need (((decide (vi10 < (s.length:Int)))&&(!(((s.getD (vi10).toNat 0).toNat:Int)==(32:Int))))=true->((decide (vi10 < (s.length:Int)))&&(!(((s.getD (vi10).toNat 0).toNat:Int)==(32:Int))))=true) (need ((decide (vi10 < (s.length:Int)))=true->(decide (vi10 < (s.length:Int)))=true) (need ((decide (vi10 < (s.length:Int)))=true->(((s.getD (vi10).toNat 0).toNat:Int)==(32:Int))=false->((decide (vi10 < (s.length:Int)))&&(!(((s.getD (vi10).toNat 0).toNat:Int)==(32:Int))))=true) (need ((decide (vi10 < (s.length:Int)))=true->(decide (vi10 < (s.length:Int)))=true) (Br13values_6 F f1 f3 s vs2 vi10 ((decide (vi10 < (s.length:Int)))&&((((s.getD (vi10).toNat 0).toNat:Int)==(32:Int))||(((s.getD (vi10).toNat 0).toNat:Int)==(9:Int)))) vl3 vs9)))))))))))) by kernel_rfl) (need_strike (show (decide (vi10 < (s.length:Int)))=true->(decide (vi10 < (s.length:Int)))=true from (fun q0=>q0)) (need_strike (show (decide (vi10 < (s.length:Int)))=true->(decide (vi10 < (s.length:Int)))=true from (fun q0=>q0)) (need_congr (need_strike (show (decide (vi10 < (s.length:Int)))=true->(decide (vi10 < (s.length:Int)))=true from (fun q0=>q0)) (need_strike (show (decide (vi10 < (s.length:Int)))=true->(decide (vi10 < (s.length:Int)))=true from (fun q0=>q0)) (need_strike (show ((decide (vi10 < (s.length:Int)))&&(!(((s.getD (vi10).toNat 0).toNat:Int)==(32:Int))))=true->((decide (vi10 < (s.length:Int)))&&(!(((s.getD (vi10).toNat 0).toNat:Int)==(32:Int))))=true from (fun q0=>q0)) (need_strike (show ((decide (vi10 < (s.length:Int)))&&(!(((s.getD (vi10).toNat 0).toNat:Int)==(32:Int))))=true->((decide (vi10 < (s.length:Int)))&&(!(((s.getD (vi10).toNat 0).toNat:Int)==(32:Int))))=true from (fun q0=>q0)) (need_congr (need_strike (show ((decide (vi10 < (s.length:Int)))&&(!(((s.getD (vi10).toNat 0).toNat:Int)==(32:Int))))=true->((decide (vi10 < (s.length:Int)))&&(!(((s.getD (vi10).toNat 0).toNat:Int)==(32:Int))))=true from (fun q0=>q0)) (need_strike (show (decide (vi10 < (s.length:Int)))=true->(decide (vi10 < (s.length:Int)))=true from (fun q0=>q0)) (need_strike (show (decide (vi10 < (s.length:Int)))=true->(((s.getD (vi10).toNat 0).toNat:Int)==(32:Int))=false->((decide (vi10 < (s.length:Int)))&&(!(((s.getD (vi10).toNat 0).toNat:Int)==(32:Int))))=true from (fun q0 q1=>(and_mk q0 (not_mk q1)))) (need_strike (show (decide (vi10 < (s.length:Int)))=true->(decide (vi10 < (s.length:Int)))=true from (fun q0=>q0)) (rfl)))))))))))))
theorem Br13values_6_eq (F f1 f3:Nat) (s vs2:List UInt8) (vi10:Int) (vc11:Bool) (vl3:List (List UInt8×List UInt8)) (vs9:List UInt8):Br13values_6 F f1 f3 s vs2 vi10 vc11 vl3 vs9=cond (vc11) (need (i64ok (vi10+(1:Int))) (Br13values_5 F f1 f3 s vs2 (vi10+(1:Int)) vl3 vs9)) (((need ((decide (vi10 < (s.length:Int)))=true->0<=vi10/\vi10 < (s.length:Int)) (((Br13values_7 F f1 s vs2 vi10 ((decide (vi10 < (s.length:Int)))&&(((s.getD (vi10).toNat 0).toNat:Int)==(34:Int))) vl3 vs9)))))):=by
 have h:Br13values_6 F f1 f3 s vs2 vi10 vc11 vl3 vs9=cond (vc11) (need (i64ok (vi10+(1:Int))) (Br13values_5 F f1 f3 s vs2 (vi10+(1:Int)) vl3 vs9)) (need ((decide (vi10 < (s.length:Int)))=true->(decide (vi10 < (s.length:Int)))=true) (need ((decide (vi10 < (s.length:Int)))=true->(decide (vi10 < (s.length:Int)))=true) (need ((decide (vi10 < (s.length:Int)))=true->0<=vi10/\vi10 < (s.length:Int)) (need ((decide (vi10 < (s.length:Int)))=true->(decide (vi10 < (s.length:Int)))=true) (need ((decide (vi10 < (s.length:Int)))=true->(decide (vi10 < (s.length:Int)))=true) (Br13values_7 F f1 s vs2 vi10 ((decide (vi10 < (s.length:Int)))&&(((s.getD (vi10).toNat 0).toNat:Int)==(34:Int))) vl3 vs9)))))):=by kernel_rfl
 rw [h,need_pos (show (decide (vi10 < (s.length:Int)))=true->(decide (vi10 < (s.length:Int)))=true from (fun q0=>q0)),need_pos (show (decide (vi10 < (s.length:Int)))=true->(decide (vi10 < (s.length:Int)))=true from (fun q0=>q0)),need_pos (show (decide (vi10 < (s.length:Int)))=true->(decide (vi10 < (s.length:Int)))=true from (fun q0=>q0)),need_pos (show (decide (vi10 < (s.length:Int)))=true->(decide (vi10 < (s.length:Int)))=true from (fun q0=>q0))]
theorem Br13values_7_eq (F f1:Nat) (s vs2:List UInt8) (vi10:Int) (vc12:Bool) (vl3:List (List UInt8×List UInt8)) (vs9:List UInt8):Br13values_7 F f1 s vs2 vi10 vc12 vl3 vs9=cond (vc12) (need (i64ok (vi10+(1:Int))) (Br13values_8 F f1 f1 s vs2 (vi10+(1:Int)) vl3 vs9 ([]:List UInt8) [])) (need (untilok s vi10 ([59]:List UInt8)) (need (0<=vi10/\vi10<=(untilS s vi10 ([59]:List UInt8))/\(untilS s vi10 ([59]:List UInt8))<=(s.length:Int)) (need (((s.take (untilS s vi10 ([59]:List UInt8)).toNat).drop (vi10).toNat).length<=1000000) (Br13values_12 F f1 s (untilS s vi10 ([59]:List UInt8)) vs2 vl3 vs9 (trimBl ((s.take (untilS s vi10 ([59]:List UInt8)).toNat).drop (vi10).toNat)))))):=by kernel_rfl
theorem Br13values_8_eq (F f1 f4:Nat) (s vs2:List UInt8) (vi13:Int) (vl14:List (List UInt8×List UInt8)) (vs15 vs16 vb17:List UInt8):Br13values_8 F f1 (f4+1) s vs2 vi13 vl14 vs15 vs16 vb17=((need ((decide (vi13 < (s.length:Int)))=true->0<=vi13/\vi13 < (s.length:Int)) (((Br13values_9 F f1 f4 s vs2 vi13 ((decide (vi13 < (s.length:Int)))&&(((s.getD (vi13).toNat 0).toNat:Int) != (34:Int))) vl14 vs15 vs16 vb17))))):=by
 have h:Br13values_8 F f1 (f4+1) s vs2 vi13 vl14 vs15 vs16 vb17=need ((decide (vi13 < (s.length:Int)))=true->(decide (vi13 < (s.length:Int)))=true) (need ((decide (vi13 < (s.length:Int)))=true->(decide (vi13 < (s.length:Int)))=true) (need ((decide (vi13 < (s.length:Int)))=true->0<=vi13/\vi13 < (s.length:Int)) (need ((decide (vi13 < (s.length:Int)))=true->(decide (vi13 < (s.length:Int)))=true) (need ((decide (vi13 < (s.length:Int)))=true->(decide (vi13 < (s.length:Int)))=true) (Br13values_9 F f1 f4 s vs2 vi13 ((decide (vi13 < (s.length:Int)))&&(((s.getD (vi13).toNat 0).toNat:Int) != (34:Int))) vl14 vs15 vs16 vb17))))):=by kernel_rfl
 rw [h,need_pos (show (decide (vi13 < (s.length:Int)))=true->(decide (vi13 < (s.length:Int)))=true from (fun q0=>q0)),need_pos (show (decide (vi13 < (s.length:Int)))=true->(decide (vi13 < (s.length:Int)))=true from (fun q0=>q0)),need_pos (show (decide (vi13 < (s.length:Int)))=true->(decide (vi13 < (s.length:Int)))=true from (fun q0=>q0)),need_pos (show (decide (vi13 < (s.length:Int)))=true->(decide (vi13 < (s.length:Int)))=true from (fun q0=>q0))]
theorem Br13values_9_eq (F f1 f4:Nat) (s vs2:List UInt8) (vi13:Int) (vc18:Bool) (vl14:List (List UInt8×List UInt8)) (vs15 vs16 vb17:List UInt8):Br13values_9 F f1 f4 s vs2 vi13 vc18 vl14 vs15 vs16 vb17=cond (vc18) (need (0<=vi13/\vi13 < (s.length:Int)) ((need ((((s.getD (vi13).toNat 0).toNat:Int)==(92:Int))=true->i64ok (vi13+(1:Int))) (((((Br13values_10 F f1 f4 s vs2 vi13 ((((s.getD (vi13).toNat 0).toNat:Int)==(92:Int))&&(decide ((vi13+(1:Int)) < (s.length:Int)))) vl14 vs15 vs16 vb17)))))))) (need (i64ok (vi13+(1:Int))) (need (untilok s (if (s.length:Int) < (vi13+(1:Int)) then (s.length:Int) else (vi13+(1:Int))) ([59]:List UInt8)) (Br13values_12 F f1 s (untilS s (if (s.length:Int) < (vi13+(1:Int)) then (s.length:Int) else (vi13+(1:Int))) ([59]:List UInt8)) vs2 vl14 vs15 vb17))):=by
 have h:Br13values_9 F f1 f4 s vs2 vi13 vc18 vl14 vs15 vs16 vb17=cond (vc18) (need (0<=vi13/\vi13 < (s.length:Int)) (need ((((s.getD (vi13).toNat 0).toNat:Int)==(92:Int))=true->(((s.getD (vi13).toNat 0).toNat:Int)==(92:Int))=true) (need ((((s.getD (vi13).toNat 0).toNat:Int)==(92:Int))=true->i64ok (vi13+(1:Int))) (need ((((s.getD (vi13).toNat 0).toNat:Int)==(92:Int))=true->(((s.getD (vi13).toNat 0).toNat:Int)==(92:Int))=true) (need ((((s.getD (vi13).toNat 0).toNat:Int)==(92:Int))=true->(((s.getD (vi13).toNat 0).toNat:Int)==(92:Int))=true) (need ((((s.getD (vi13).toNat 0).toNat:Int)==(92:Int))=true->(((s.getD (vi13).toNat 0).toNat:Int)==(92:Int))=true) (need ((((s.getD (vi13).toNat 0).toNat:Int)==(92:Int))=true->(((s.getD (vi13).toNat 0).toNat:Int)==(92:Int))=true) (Br13values_10 F f1 f4 s vs2 vi13 ((((s.getD (vi13).toNat 0).toNat:Int)==(92:Int))&&(decide ((vi13+(1:Int)) < (s.length:Int)))) vl14 vs15 vs16 vb17)))))))) (need (i64ok (vi13+(1:Int))) (need (untilok s (if (s.length:Int) < (vi13+(1:Int)) then (s.length:Int) else (vi13+(1:Int))) ([59]:List UInt8)) (Br13values_12 F f1 s (untilS s (if (s.length:Int) < (vi13+(1:Int)) then (s.length:Int) else (vi13+(1:Int))) ([59]:List UInt8)) vs2 vl14 vs15 vb17))):=by kernel_rfl
 rw [h,need_pos (show (((s.getD (vi13).toNat 0).toNat:Int)==(92:Int))=true->(((s.getD (vi13).toNat 0).toNat:Int)==(92:Int))=true from (fun q0=>q0)),need_pos (show (((s.getD (vi13).toNat 0).toNat:Int)==(92:Int))=true->(((s.getD (vi13).toNat 0).toNat:Int)==(92:Int))=true from (fun q0=>q0)),need_pos (show (((s.getD (vi13).toNat 0).toNat:Int)==(92:Int))=true->(((s.getD (vi13).toNat 0).toNat:Int)==(92:Int))=true from (fun q0=>q0)),need_pos (show (((s.getD (vi13).toNat 0).toNat:Int)==(92:Int))=true->(((s.getD (vi13).toNat 0).toNat:Int)==(92:Int))=true from (fun q0=>q0)),need_pos (show (((s.getD (vi13).toNat 0).toNat:Int)==(92:Int))=true->(((s.getD (vi13).toNat 0).toNat:Int)==(92:Int))=true from (fun q0=>q0))]
theorem Br13values_10_eq (F f1 f4:Nat) (s vs2:List UInt8) (vi13:Int) (vc19:Bool) (vl14:List (List UInt8×List UInt8)) (vs15 vs16 vb17:List UInt8):Br13values_10 F f1 f4 s vs2 vi13 vc19 vl14 vs15 vs16 vb17=cond (vc19) (need (i64ok (vi13+(1:Int))) (Br13values_11 F f1 f4 s vs2 (vi13+(1:Int)) vl14 vs15 vs16 vb17)) (Br13values_11 F f1 f4 s vs2 vi13 vl14 vs15 vs16 vb17):=by kernel_rfl
theorem Br13values_11_eq (F f1 f4:Nat) (s vs2:List UInt8) (vi20:Int) (vl14:List (List UInt8×List UInt8)) (vs15 vs16 vb17:List UInt8):Br13values_11 F f1 f4 s vs2 vi20 vl14 vs15 vs16 vb17=need (0<=vi20/\vi20 < (s.length:Int)) (need ((vb17.length+[UInt8.ofNat (((s.getD (vi20).toNat 0).toNat:Int)).toNat].length) * 1<=140737488355328) (need (i64ok (vi20+(1:Int))) (Br13values_8 F f1 f4 s vs2 (vi20+(1:Int)) vl14 vs15 vs16 (vb17++[UInt8.ofNat (((s.getD (vi20).toNat 0).toNat:Int)).toNat])))):=by kernel_rfl
theorem Br13values_12_eq (F f1:Nat) (s:List UInt8) (vi21:Int) (vs2:List UInt8) (vl22:List (List UInt8×List UInt8)) (vs23 vs24:List UInt8):Br13values_12 F f1 s vi21 vs2 vl22 vs23 vs24=cond (vs23 != ([]:List UInt8)) (need ((vl22.length+[(vs23,vs24)].length) * 32<=140737488355328) (Br13values_1 F f1 s vi21 vs2 (vl22++[(vs23,vs24)]))) (Br13values_1 F f1 s vi21 vs2 vl22):=by kernel_rfl
theorem Fr13values_eq (F:Nat) (s:List UInt8):Fr13values F s=need (untilok s (0:Int) ([59]:List UInt8)) (need (0<=(untilS s (0:Int) ([59]:List UInt8))/\(untilS s (0:Int) ([59]:List UInt8))<=(s.length:Int)) (need ((s.take (untilS s (0:Int) ([59]:List UInt8)).toNat).length<=1000000) (need ((trimBl (s.take (untilS s (0:Int) ([59]:List UInt8)).toNat)).length<=140737488355328) (Br13values_1 F F s (untilS s (0:Int) ([59]:List UInt8)) (foldS (trimBl (s.take (untilS s (0:Int) ([59]:List UInt8)).toNat))) ([]:List (List UInt8×List UInt8)))))):=by kernel_rfl
theorem fn_r13values (F:Nat) (s:List UInt8) (r:AV) (h:(∃ M vs,ARels γ0 M [.p (.str s)] vs)->Fr13values F s=some (r,[])):FnP Tryz.prog 110 [.p (.str s)] r:=
 FnP_run Gr13values F rfl (EnvOk_mk (l:=[(39,sp_until),(108,sp_r7trim),(112,sp_rFold)]) ⟨ok_until.any,ok_r7trim.any,ok_rFold.any,trivial⟩) (EnvROk_mk (l:=[]) trivial) (Checked.mixed Tryz.checked) (fn:=Tryz.f110) (by kernel_rfl) (by kernel_rfl) rfl h
theorem take_drop_pre {s p q:List UInt8} {i:Nat} (h:s.drop i=p++q) (hi:i<=s.length):(s.take (i+p.length)).drop i=p/\s.drop (i+p.length)=q/\i+p.length<=s.length:=by
 have hl:=congrArg List.length h
 simp only [List.length_drop,List.length_append] at hl
 refine ⟨?_,?_,by omega⟩
 .rw [List.drop_take,h,show i+p.length - i=p.length by omega,List.take_left]
 .rw [<-List.drop_drop,h,List.drop_left]
theorem tw_app (p:UInt8->Bool) (l:List UInt8):l=l.takeWhile p++l.dropWhile p:=(List.takeWhile_append_dropWhile).symm
theorem nof_sep:nof [61,59]=nsep:=rfl
theorem nof_59 (c:UInt8):nof [59] c=(c != 59):=by
 unfold nof
 by_cases h:c=59
 .subst h; rfl
 .simp [h]
theorem tw_all {p:UInt8->Bool}:∀ {l:List UInt8},(∀ x ∈ l,p x=true)->l.takeWhile p=l
 | [],_=>rfl
 | c::r,h=>by rw [List.takeWhile_cons,if_pos (h c (by simp)),tw_all fun x hx=>h x (List.mem_cons_of_mem _ hx)]
theorem cut_tw (v:List UInt8):(cutS v 59).1=v.takeWhile (nof [59])/\(((cutS v 59).2.2=true/\v=v.takeWhile (nof [59])++59::(cutS v 59).2.1)\/((cutS v 59).2.2=false/\(cutS v 59).2.1=[]/\v.takeWhile (nof [59])=v)):=by
 rcases cut_split 59 v with ⟨p,q,e,hp,h⟩ | ⟨hn,h⟩
 .have ht:v.takeWhile (nof [59])=p:=by
   rw [e,List.takeWhile_append_of_pos (fun x hx=>by rw [nof_59]; simpa using hp x hx),List.takeWhile_cons,if_neg (by rw [nof_59]; simp),List.append_nil]
  rw [h,ht]; exact ⟨rfl,.inl ⟨rfl,e⟩⟩
 .have ht:v.takeWhile (nof [59])=v:=by
   exact tw_all (fun x hx=>by rw [nof_59]; simpa using hn x hx)
  rw [h,ht]; exact ⟨rfl,.inr ⟨rfl,rfl,rfl⟩⟩
def At (s:List UInt8) (k:Nat) (r:List UInt8) (m:Bool):Prop:=k<=s.length/\((m=true/\∃ c,s.drop k=c::r)\/(m=false/\k=s.length))
theorem at_cut {s v:List UInt8} {i:Nat} (h:s.drop i=v) (hi:i<=s.length):At s (i+(v.takeWhile (nof [59])).length) (cutS v 59).2.1 (cutS v 59).2.2:=by
 obtain ⟨_,⟨h2,h3⟩ | ⟨h2,h3,h4⟩⟩:=cut_tw v
 .obtain ⟨g1,g2,g3⟩:=take_drop_pre (h.trans h3) hi
  exact ⟨g3,.inl ⟨h2,59,g2⟩⟩
 .rw [h4]
  have:=congrArg List.length h
  simp only [List.length_drop] at this
  exact ⟨by omega,.inr ⟨h2,by omega⟩⟩
theorem bl_dec (c:UInt8):(((c.toNat:Int)==(32:Int))||((c.toNat:Int)==(9:Int)))=isBl2 c:=by
 rw [isBl2_eq,Bool.eq_iff_iff]
 simp only [Bool.or_eq_true,beq_iff_eq]
 constructor
 .rintro (h | h)
  .exact .inl (u8_eq.1 h)
  .exact .inr (u8_eq.1 h)
 .rintro (h | h)
  .exact .inl (u8_eq.2 h)
  .exact .inr (u8_eq.2 h)
theorem trim_tail {v:List UInt8} {d:UInt8} {q:List UInt8} (hv:v=d::q) (hd:isBl2 d=false):trimBl ((d::q).takeWhile (nof [59]))=trimRB ((d::q).takeWhile (nof [59])):=by
 have key:∀ x:List UInt8,(x=[]\/∃ r,x=d::r)->trimBl x=trimRB x:=by
  intro x hx
  unfold trimBl trimRB
  rcases hx with rfl | ⟨r,rfl⟩
  .rfl
  .have:∃ r',((d::r).reverse.dropWhile isBl2).reverse=d::r':=by
    rw [List.reverse_cons]
    have h1:∀ (a:List UInt8),∃ b,(a++[d]).dropWhile isBl2=b++[d]:=by
     intro a
     induction a with
     | nil=>exact ⟨[],by rw [List.nil_append,List.dropWhile_cons,if_neg (by rw [hd]; simp)]⟩
     | cons c a ih=>
      rw [List.cons_append,List.dropWhile_cons]
      split
      .exact ih
      .exact ⟨c::a,rfl⟩
    obtain ⟨b,hb⟩:=h1 r.reverse
    rw [hb,List.reverse_append]
    exact ⟨b.reverse,rfl⟩
   obtain ⟨r',hr⟩:=this
   rw [hr,List.dropWhile_cons,if_neg (by rw [hd]; simp)]
 refine key _ ?_
 rw [List.takeWhile_cons]
 split
 .exact .inr ⟨_,rfl⟩
 .exact .inl rfl
theorem r13_out (F f:Nat) (s w:List UInt8) (k:Nat) (l:List (List UInt8×List UInt8)) (n v:List UInt8) (hl:l.length<=3000000) {z:Option Ans} (h:Br13values_1 F f s (k:Int) w (if n≠[] then l++[(n,v)] else l)=z):
 Br13values_12 F f s (k:Int) w l n v=z:=by
 rw [Br13values_12_eq]
 by_cases hn:n=[]
 .subst hn; rw [if_neg (by simp)] at h; exact cond_f rfl h
 .rw [if_pos hn] at h; exact cond_t (by simpa using hn) (need_mk (by simp; omega) h)
theorem r13_blanks (F f1:Nat) (s w:List UInt8) (hs:s.length<=1000000) (l:List (List UInt8×List UInt8)) {z:Option Ans}:∀ (u:List UInt8) (f2 i:Nat),s.drop i=u->u.length < f2->i<=s.length->
 (∀ (g j:Nat),j<=s.length->s.drop j=trimLB u->Br13values_3 F f1 g s w (j:Int) false l=z)->Br13values_2 F f1 f2 s w (i:Int) l=z:=by
 intro u
 induction u with
 | nil=>
  intro f2 i hd hf hi hz
  cases f2 with
  | zero=>omega
  | succ f2=>
   have hl:i=s.length:=by have:=congrArg List.length hd; simp at this; omega
   rw [Br13values_2_eq,show decide ((i:Int) < (s.length:Int))=false from decide_eq_false (by omega)]
   exact need_mk (fun h=>by cases h) (need_mk (fun h=>by cases h) (hz f2 i hi hd))
 | cons c u ih=>
  intro f2 i hd hf hi hz
  obtain ⟨h1,h2,h3⟩:=drop_cons hd
  cases f2 with
  | zero=>omega
  | succ f2=>
   rw [Br13values_2_eq,show decide ((i:Int) < (s.length:Int))=true from decide_eq_true (by omega),Int.toNat_natCast,h1,bl_dec]
   refine need_mk (fun _=>⟨by omega,by omega⟩) (need_mk (fun _=>⟨by omega,by omega⟩) ?_)
   cases hc:isBl2 c with
   | true=>
    rw [Br13values_3_eq]
    refine cond_t rfl (need_mk (by unfold i64ok; omega) ?_)
    rw [show (i:Int)+1=((i+1:Nat):Int) by omega]
    refine ih f2 (i+1) h2 (by simp at hf; omega) (by omega) fun g j hj he=>hz g j hj ?_
    rw [he]; unfold trimLB; rw [List.dropWhile_cons,if_pos hc]
   | false=>
    refine hz f2 i hi ?_
    rw [hd]; unfold trimLB; rw [List.dropWhile_cons,if_neg (by rw [hc]; simp)]
theorem r13_blanks5 (F f1:Nat) (s w:List UInt8) (hs:s.length<=1000000) (l:List (List UInt8×List UInt8)) (n:List UInt8) {z:Option Ans}:∀ (u:List UInt8) (f2 i:Nat),s.drop i=u->u.length < f2->i<=s.length->
 (∀ (g j:Nat),j<=s.length->s.drop j=trimLB u->Br13values_6 F f1 g s w (j:Int) false l n=z)->Br13values_5 F f1 f2 s w (i:Int) l n=z:=by
 intro u
 induction u with
 | nil=>
  intro f2 i hd hf hi hz
  cases f2 with
  | zero=>omega
  | succ f2=>
   have hl:i=s.length:=by have:=congrArg List.length hd; simp at this; omega
   rw [Br13values_5_eq,show decide ((i:Int) < (s.length:Int))=false from decide_eq_false (by omega)]
   exact need_mk (fun h=>by cases h) (need_mk (fun h=>by cases h) (hz f2 i hi hd))
 | cons c u ih=>
  intro f2 i hd hf hi hz
  obtain ⟨h1,h2,h3⟩:=drop_cons hd
  cases f2 with
  | zero=>omega
  | succ f2=>
   rw [Br13values_5_eq,show decide ((i:Int) < (s.length:Int))=true from decide_eq_true (by omega),Int.toNat_natCast,h1,bl_dec]
   refine need_mk (fun _=>⟨by omega,by omega⟩) (need_mk (fun _=>⟨by omega,by omega⟩) ?_)
   cases hc:isBl2 c with
   | true=>
    rw [Br13values_6_eq]
    refine cond_t rfl (need_mk (by unfold i64ok; omega) ?_)
    rw [show (i:Int)+1=((i+1:Nat):Int) by omega]
    refine ih f2 (i+1) h2 (by simp at hf; omega) (by omega) fun g j hj he=>hz g j hj ?_
    rw [he]; unfold trimLB; rw [List.dropWhile_cons,if_pos hc]
   | false=>
    refine hz f2 i hi ?_
    rw [hd]; unfold trimLB; rw [List.dropWhile_cons,if_neg (by rw [hc]; simp)]
theorem r13_quote (F f1:Nat) (s w:List UInt8) (hs:s.length<=1000000) (l:List (List UInt8×List UInt8)) (n e:List UInt8) {z:Option Ans}:∀ (k f4 i:Nat) (acc:List UInt8),s.length - i<=k->k < f4->i<=s.length->acc.length<=i->
 (∀ (j:Nat),j<=s.length->s.drop j=(qtP acc (s.drop i)).2->Br13values_12 F f1 s (untilS s (j:Int) [59]) w l n (qtP acc (s.drop i)).1=z)->Br13values_8 F f1 f4 s w (i:Int) l n e acc=z:=by
 intro k
 induction k using Nat.strongRecOn with
 | _ k ih=>
  intro f4 i acc hk hf hi ha hz
  cases f4 with
  | zero=>omega
  | succ f4=>
   rw [Br13values_8_eq]
   have stop:∀ j:Nat,j<=s.length->s.drop j=(qtP acc (s.drop i)).2->(qtP acc (s.drop i)).1=acc->(if (s.length:Int) < ((i:Int)+1) then (s.length:Int) else ((i:Int)+1))=(j:Int)->Br13values_9 F f1 f4 s w (i:Int) false l n e acc=z:=by
    intro j hj hd he hmin
    rw [Br13values_9_eq]
    refine cond_f rfl (need_mk (by unfold i64ok; omega) ?_)
    rw [hmin]
    have:=hz j hj hd
    rw [he] at this
    exact need_mk ⟨by omega,by omega,hs,by decide⟩ this
   by_cases h:i < s.length
   .obtain ⟨c,r,hd⟩:∃ c r,s.drop i=c::r:=⟨s[i],s.drop (i+1),List.drop_eq_getElem_cons h⟩
    obtain ⟨h1,h2,h3⟩:=drop_cons hd
    rw [show decide ((i:Int) < (s.length:Int))=true from decide_eq_true (by omega),Int.toNat_natCast,h1]
    refine need_mk (fun _=>⟨by omega,by omega⟩) ?_
    by_cases e34:c=34
    .subst e34
     refine stop (i+1) (by omega) ?_ ?_ (by rw [if_neg (by omega)]; omega)
     .rw [hd,qtP_end]; exact h2
     .rw [hd,qtP_end]
    .have ne:(true&&((c.toNat:Int) != (34:Int)))=true:=by
      have:c.toNat≠34:=fun e=>e34 (UInt8.toNat_inj.1 e)
      rw [Bool.true_and,bne_iff_ne]; omega
     rw [ne,Br13values_9_eq]
     refine cond_t rfl (need_mk ⟨by omega,by omega⟩ (need_mk (fun _=>by unfold i64ok; omega) ?_))
     rw [Int.toNat_natCast,h1]
     have step:∀ (d:UInt8) (j:Nat),j < s.length->i<=j->s.getD j 0=d->(qtP (acc++[d]) (s.drop (j+1)))=qtP acc (s.drop i)->Br13values_11 F f1 f4 s w (j:Int) l n e acc=z:=by
      intro d j hj hij hg he
      rw [Br13values_11_eq]
      refine need_mk ⟨by omega,by omega⟩ (need_mk (by simp; omega) (need_mk (by unfold i64ok; omega) ?_))
      simp only [Int.toNat_natCast]
      rw [hg,UInt8.ofNat_toNat,show (j:Int)+1=((j+1:Nat):Int) by omega]
      refine ih (s.length - (j+1)) (by omega) f4 (j+1) (acc++[d]) (by omega) (by omega) (by omega) (by simp; omega) fun j2 hj2 hd2=>?_
      rw [he] at hd2 ⊢
      exact hz j2 hj2 hd2
     rw [Br13values_10_eq]
     by_cases e92:c=92/\i+1 < s.length
     .obtain ⟨e92,hlt⟩:=e92
      subst e92
      obtain ⟨d,r',hd'⟩:∃ d r',s.drop (i+1)=d::r':=⟨s[i+1],s.drop (i+1+1),List.drop_eq_getElem_cons hlt⟩
      obtain ⟨g1,g2,g3⟩:=drop_cons hd'
      refine cond_t (by simp; omega) (need_mk (by unfold i64ok; omega) ?_)
      rw [show (i:Int)+1=((i+1:Nat):Int) by omega]
      refine step d (i+1) hlt (by omega) g1 ?_
      rw [hd,<-h2,hd',qtP_esc,g2]
     .refine cond_f ?_ (step c i h (Nat.le_refl _) h1 ?_)
      .by_cases e':c=92
       .have hge:¬ i+1 < s.length:=fun h=>e92 ⟨e',h⟩
        simp; omega
       .have:c.toNat≠92:=fun e''=>e' (UInt8.toNat_inj.1 e'')
        simp; omega
      .rw [hd,h2]
       by_cases e':c=92
       .subst e'
        have hge:¬ i+1 < s.length:=fun h=>e92 ⟨rfl,h⟩
        have:s.drop (i+1)=[]:=List.drop_eq_nil_of_le (by omega)
        rw [<-h2,this,qtP_last,qtP_nil]
       .rw [qtP_step _ _ e34 e']
   .have hnil:s.drop i=[]:=List.drop_eq_nil_of_le (by omega)
    rw [show decide ((i:Int) < (s.length:Int))=false from decide_eq_false (by omega)]
    refine need_mk (fun h=>by cases h) ?_
    refine stop s.length (Nat.le_refl _) ?_ ?_ (by rw [if_pos (by omega)])
    .rw [hnil,qtP_nil,List.drop_eq_nil_of_le (Nat.le_refl _)]
    .rw [hnil,qtP_nil]
theorem Br13_spec (F:Nat) (s w:List UInt8) (hs:s.length<=1000000):∀ (n f k:Nat) (r:List UInt8) (m:Bool) (l:List (List UInt8×List UInt8)),At s k r m->(m=true->r.length < n)->n+s.length+2 < f->l.length+n<=2900000->
 Br13values_1 F f s (k:Int) w l=some (.tup [.p (.str w),.p (.list 2 (.dat (.pair .str .str) (valsP n r m l)))],[]):=by
 intro n
 induction n with
 | zero=>
  intro f k r m l hat hm hf hl
  obtain ⟨hk,⟨hm',c,hd⟩ | ⟨hm',hk'⟩⟩:=hat
  .exact absurd (hm hm') (by omega)
  .cases f with
   | zero=>omega
   | succ f=>rw [Br13values_1_eq,hm']; exact cond_f (by simp; omega) rfl
 | succ n ih=>
  intro f k r m l hat hm hf hl
  obtain ⟨hk,⟨hm',c0,hd0⟩ | ⟨hm',hk'⟩⟩:=hat
  rotate_left
  .cases f with
   | zero=>omega
   | succ f=>rw [Br13values_1_eq,hm',valsP,if_neg (by simp)]; exact cond_f (by simp; omega) rfl
  subst hm'
  cases f with
  | zero=>omega
  | succ f=>
   obtain ⟨_,hr,_⟩:=drop_cons hd0
   have hkl:k < s.length:=by have:=congrArg List.length hd0; simp at this; omega
   have hrl:r.length=s.length - (k+1):=by rw [<-hr]; simp
   obtain ⟨p1,p2⟩:=paramP_le r
   have hm:=hm rfl
   rw [Br13values_1_eq,valsP,if_pos rfl]
   refine cond_t (by simp; omega) (need_mk (by unfold i64ok; omega) ?_)
   rw [show (k:Int)+1=((k+1:Nat):Int) by omega]
   have next:∀ (k2:Nat) (nv:List UInt8×List UInt8),nv=(paramP r).1->At s k2 (paramP r).2.1 (paramP r).2.2->Br13values_12 F f s (k2:Int) w l nv.1 nv.2=some (.tup [.p (.str w),.p (.list 2 (.dat (.pair .str .str) (valsP n (paramP r).2.1 (paramP r).2.2 (if (paramP r).1.1≠[] then l++[(paramP r).1] else l))))],[]):=by
    intro k2 nv hnv hat2
    refine r13_out F f s w k2 l nv.1 nv.2 (by omega) ?_
    rw [hnv]
    refine ih f k2 _ _ _ hat2 (fun h=>by have:=p2 h; omega) (by omega) ?_
    split
    .simp; omega
    .omega
   refine r13_blanks F f s w hs l r f (k+1) hr (by omega) (by omega) fun g j hj hdj=>?_
   obtain ⟨t,ht⟩:∃ t,trimLB r=t:=⟨_,rfl⟩
   rw [ht] at hdj
   have htl:t.length=s.length - j:=by rw [<-hdj]; simp
   obtain ⟨q1,q2,q3⟩:=take_drop_pre (hdj.trans (tw_app nsep t)) hj
   have hnl:=take_len (p:=nsep) t
   rw [Br13values_3_eq,untilS_n,hdj,nof_sep]
   refine cond_f rfl (need_mk ⟨by omega,by omega,hs,by decide⟩ (need_mk ⟨by omega,by omega,by omega⟩ ?_))
   rw [Int.toNat_natCast,Int.toNat_natCast,q1]
   have htb:=trimBl_len (t.takeWhile nsep)
   refine need_mk (by omega) (need_mk (by omega) (need_mk (fun h=>⟨by omega,of_decide_eq_true h⟩) ?_))
   show Br13values_4 F f s _ w _ _ l (nameP (t.takeWhile nsep))=_
   rw [Br13values_4_eq]
   have hpar:(paramP r)=(match t.dropWhile nsep with
    | []=>((nameP t,[]),[],false)
    | c::u=>if c=59 then ((nameP (t.takeWhile nsep),[]),u,true) else match trimLB u with
     | []=>((nameP (t.takeWhile nsep),[]),[],false)
     | d::q=>if d=34 then ((nameP (t.takeWhile nsep),(qtP [] q).1),(cutS (qtP [] q).2 59).2.1,(cutS (qtP [] q).2 59).2.2)
      else ((nameP (t.takeWhile nsep),trimRB (cutS (d::q) 59).1),(cutS (d::q) 59).2.1,(cutS (d::q) 59).2.2)):=by
    rw [<-ht]; rfl
   rcases ixSep_split t with ⟨h1,h2,h3⟩ | ⟨c,u,h1,h2,h3,h4⟩
   .rw [h1] at hpar q2
    dsimp only at hpar
    have hend:j+(t.takeWhile nsep).length=s.length:=by
     have:=congrArg List.length q2; simp at this; omega
    refine cond_f (by rw [show decide (((j+(t.takeWhile nsep).length:Nat):Int) < (s.length:Int))=false from decide_eq_false (by omega)]; rfl) ?_
    refine next _ (nameP (t.takeWhile nsep),[]) (by rw [hpar,h2]) ?_
    rw [hpar]
    exact ⟨q3,.inr ⟨rfl,hend⟩⟩
   .rw [h1] at hpar q2
    dsimp only at hpar
    obtain ⟨g1,g2,g3⟩:=drop_cons q2
    have hlt:j+(t.takeWhile nsep).length < s.length:=by have:=congrArg List.length q2; simp at this; omega
    rw [show decide (((j+(t.takeWhile nsep).length:Nat):Int) < (s.length:Int))=true from decide_eq_true (by omega),g1]
    by_cases h59:c=59
    .subst h59
     rw [if_pos rfl] at hpar
     refine cond_f rfl ?_
     refine next _ (nameP (t.takeWhile nsep),[]) (by rw [hpar]) ?_
     rw [hpar]
     exact ⟨q3,.inl ⟨rfl,59,q2⟩⟩
    .have h61:c=61:=(sep_cases h2).resolve_right h59
     subst h61
     rw [if_neg (by decide)] at hpar
     refine cond_t rfl (need_mk (by unfold i64ok; omega) ?_)
     rw [show ((j+(t.takeWhile nsep).length:Nat):Int)+1=((j+(t.takeWhile nsep).length+1:Nat):Int) by omega]
     have hul:u.length=s.length - (j+(t.takeWhile nsep).length+1):=by rw [<-g2]; simp
     refine r13_blanks5 F f s w hs l _ u f _ g2 (by omega) (by omega) fun g' j2 hj2 hd2=>?_
     rw [Br13values_6_eq]
     refine cond_f rfl (need_mk (fun h=>⟨by omega,of_decide_eq_true h⟩) ?_)
     rw [Int.toNat_natCast,Br13values_7_eq]
     cases hv:trimLB u with
     | nil=>
      rw [hv] at hpar hd2
      dsimp only at hpar
      have hj2e:j2=s.length:=by have:=congrArg List.length hd2; simp at this; omega
      refine cond_f (by rw [show decide ((j2:Int) < (s.length:Int))=false from decide_eq_false (by omega)]; rfl) (need_mk ⟨by omega,by omega,hs,by decide⟩ ?_)
      rw [untilS_n,hd2]
      refine need_mk ⟨by omega,by simp,by first | omega | (simp; omega) | simp⟩ (need_mk (by first | omega | (simp; omega) | simp) ?_)
      have e1:((s.take ((j2+(([]:List UInt8).takeWhile (nof [59])).length:Nat):Int).toNat).drop (j2:Int).toNat)=[]:=by
       rw [Int.toNat_natCast,Int.toNat_natCast]; simp
      rw [e1]
      refine next (j2+(([]:List UInt8).takeWhile (nof [59])).length) (nameP (t.takeWhile nsep),[]) (by rw [hpar]) ?_
      rw [hpar]
      exact ⟨by simp; omega,.inr ⟨rfl,by simp; omega⟩⟩
     | cons d q=>
      rw [hv] at hpar hd2
      dsimp only at hpar
      have hnb:=trimLB_head u d q hv
      obtain ⟨b1,b2,b3⟩:=drop_cons hd2
      have hj2l:j2 < s.length:=by have:=congrArg List.length hd2; simp at this; omega
      rw [show decide ((j2:Int) < (s.length:Int))=true from decide_eq_true (by omega),b1]
      by_cases h34:d=34
      .subst h34
       rw [if_pos rfl] at hpar
       refine cond_t rfl (need_mk (by unfold i64ok; omega) ?_)
       rw [show (j2:Int)+1=((j2+1:Nat):Int) by omega]
       refine r13_quote F f s w hs l _ _ (s.length - (j2+1)) f (j2+1) [] (by omega) (by omega) (by omega) (by simp) fun j3 hj3 hd3=>?_
       rw [b2] at hd3 ⊢
       rw [untilS_n,hd3]
       refine next _ (nameP (t.takeWhile nsep),(qtP [] q).1) (by rw [hpar]) ?_
       rw [hpar]
       exact at_cut hd3 hj3
      .rw [if_neg h34] at hpar
       have ne:d.toNat≠34:=fun e=>h34 (UInt8.toNat_inj.1 e)
       refine cond_f (by simp; omega) (need_mk ⟨by omega,by omega,hs,by decide⟩ ?_)
       obtain ⟨k1,k2,k3⟩:=take_drop_pre (hd2.trans (tw_app (nof [59]) (d::q))) hj2
       rw [untilS_n,hd2]
       refine need_mk ⟨by omega,by omega,by omega⟩ ?_
       simp only [Int.toNat_natCast]
       rw [k1]
       have hkl2:=take_len (p:=nof [59]) (d::q)
       have hdq:=congrArg List.length hd2
       simp only [List.length_drop] at hdq
       refine need_mk (by omega) ?_
       rw [trim_tail rfl hnb,<-(cut_tw (d::q)).1]
       refine next _ (nameP (t.takeWhile nsep),trimRB (cutS (d::q) 59).1) (by rw [hpar]) ?_
       rw [hpar,(cut_tw (d::q)).1]
       exact at_cut hd2 hj2
theorem r13values_eq (s:List UInt8) (hs:s.length<=1000000):Fr13values (2 * s.length+10) s=some (.tup [.p (.str (valuesP s).1),.p (.list 2 (.dat (.pair .str .str) (valuesP s).2))],[]):=by
 have hl:=cutS_len s 59
 have htl:=take_len (p:=nof [59]) s
 have hd:s.drop 0=s.takeWhile (nof [59])++s.dropWhile (nof [59]):=tw_app _ s
 obtain ⟨q1,q2,q3⟩:=take_drop_pre hd (by omega)
 rw [List.drop_zero] at q1
 have hat:=at_cut (s:=s) (v:=s) (i:=0) rfl (by omega)
 rw [Nat.zero_add] at q1 hat
 have hu:untilS s 0 [59]=((s.takeWhile (nof [59])).length:Int):=by
  have:=untilS_n s 0 [59]
  rw [List.drop_zero,Nat.zero_add] at this
  exact this
 rw [Fr13values_eq,hu,Int.toNat_natCast,q1]
 have htb:=trimBl_len (s.takeWhile (nof [59]))
 refine need_mk ⟨by omega,by omega,hs,by decide⟩ (need_mk ⟨by omega,by omega⟩ (need_mk (by omega) (need_mk (by omega) ?_)))
 have:=Br13_spec (2 * s.length+10) s (nameP (s.takeWhile (nof [59]))) hs (s.length+1) (2 * s.length+10) _ _ _ [] hat (fun _=>by omega) (by omega) (by simp; omega)
 rw [<-(cut_tw s).1] at this ⊢
 exact this
def sp_r13values:List AV->Option (AV×Option Prop)
 | [.p (.str s)]=>some (.tup [.p (.str ((valuesP s).1)),.p (.list 2 (.dat (.pair .str .str) ((valuesP s).2)))],some (s.length<=1000000))
 | _=>none
theorem ok_r13values:SpecOk Tryz.prog 110 sp_r13values:=by
 intro zs r ok he hok
 unfold sp_r13values at he
 split at he
 .cases he; exact ⟨by kernel_rfl,fn_r13values (_) _ _ fun hx=>r13values_eq _ hok⟩
 .cases he
end Go.Proofs.YtoanepondbagcaaGreatDoor
namespace Go.Proofs.YtoanepondbagcaaGreatDoor
open Go Go.Am
set_option linter.unusedVariables false
noncomputable def Gix1:Cfg:=⟨Tryz.prog,mkEnv [(126,sp_ixl)],mkEnvR [],8,[],[],[]⟩
noncomputable def Fix1 (F:Nat) (s:List UInt8) (c:UInt8):Option Ans:=runF Gix1 Tryz.f94 F [.p (.str s),.p (.str [c])]
theorem Fix1_eq (F:Nat) (s:List UInt8) (c:UInt8):Fix1 F s c=some (.p (.int .i64 (ixS s (c.toNat:Int))),[]):=by kernel_rfl
theorem fn_ix1 (F:Nat) (s:List UInt8) (c:UInt8) (r:AV) (h:(∃ M vs,ARels γ0 M [.p (.str s),.p (.str [c])] vs)->Fix1 F s c=some (r,[])):FnP Tryz.prog 94 [.p (.str s),.p (.str [c])] r:=
 FnP_run Gix1 F rfl (EnvOk_mk (l:=[(126,sp_ixl)]) ⟨ok_ixl.any,trivial⟩) (EnvROk_mk (l:=[]) trivial) (Checked.mixed Tryz.checked) (fn:=Tryz.f94) (by kernel_rfl) (by kernel_rfl) rfl h
theorem ix1_eq (s:List UInt8) (c:UInt8):Fix1 0 s c=some (.p (.int .i64 (ixS s (c.toNat:Int))),[]):=by rw [Fix1_eq]
def sp_ix1:List AV->Option (AV×Option Prop)
 | [.p (.str s),.p (.str [c])]=>some (.p (.int .i64 (ixS s (c.toNat:Int))),none)
 | _=>none
theorem ok_ix1:SpecOk Tryz.prog 94 sp_ix1:=by
 intro zs r ok he hok
 unfold sp_ix1 at he
 split at he
 .cases he; exact ⟨by kernel_rfl,fn_ix1 0 _ _ _ fun hx=>ix1_eq _ _⟩
 .cases he
end Go.Proofs.YtoanepondbagcaaGreatDoor
