/-
  Lifted functions, and facts about them.
-/
import Derived.Test.YtoanepondbagcaaGreatDoorRows
import Derived.Test.YtoanepondbagcaaGreatDoorAmC
import Derived.Test.YtoanepondbagcaaGreatDoorC01
import Derived.Test.YtoanepondbagcaaGreatDoorC08
import Derived.Test.YtoanepondbagcaaGreatDoorC03
namespace Go.Proofs.YtoanepondbagcaaGreatDoor
open Go Go.Am
set_option linter.unusedVariables false
noncomputable def Glines:Cfg:=⟨Tryz.prog,mkEnv [],mkEnvR [],8,[],[],[]⟩
noncomputable def Flines (F:Nat) (s:List UInt8) (a b:Int):Option Ans:=runFR Glines Tryz.f78 ⟨[6],[⟨.comp 6 0,506000,.cells []⟩,⟨.comp 6 1,506001,.cells []⟩,⟨.comp 6 2,506002,.cells []⟩]⟩ [506000,506001,506002] F [.p (.str s),.p (.int .i64 a),.p (.int .i64 b)] []
theorem Flines_eq (F:Nat) (s:List UInt8) (a b:Int):Flines F s a b=some (.clo (.func 118) [] [.ref 506000 0,.ref 506001 0,.ref 506002 0],[(506000,.cells [.p (.int .i64 a)]),(506001,.cells [.p (.int .i64 b)]),(506002,.cells [.p (.str s)])]):=by kernel_rfl
theorem fn_lines (F:Nat) (s:List UInt8) (a b:Int) (r:AV) (os:List (Nat×AObj)) (h:(∃ γ M w vs,ARels γ M [.p (.str s),.p (.int .i64 a),.p (.int .i64 b)] vs/\Objs γ M w (fun i=>lookO i []) (fun b=>b < w.heap.size))->Flines F s a b=some (r,os)):FnR Tryz.prog 78 [.p (.str s),.p (.int .i64 a),.p (.int .i64 b)] [] [] r os:=
 FnR_run Glines ⟨[6],[⟨.comp 6 0,506000,.cells []⟩,⟨.comp 6 1,506001,.cells []⟩,⟨.comp 6 2,506002,.cells []⟩]⟩ [506000,506001,506002] F rfl (EnvOk_mk (l:=[]) trivial) (EnvROk_mk (l:=[]) trivial) (Checked.mixed Tryz.checked) (fn:=Tryz.f78) (by kernel_rfl) (by kernel_rfl) rfl h
def sp_lines:RSpec:=⟨[true,true,true],fun args ib=>match args,ib with
 | [.p (.str s),.p (.int .i64 a),.p (.int .i64 b)],[]=>some (([],.clo (.func 118) [] [.ref 506000 0,.ref 506001 0,.ref 506002 0]),([(506000,.cells [.p (.int .i64 a)]),(506001,.cells [.p (.int .i64 b)]),(506002,.cells [.p (.str s)])],none))
 | _,_=>none⟩
theorem ok_lines:SpecROk Tryz.prog 78 sp_lines:=by
 intro args ib kept r outs ok he hok
 simp only [sp_lines] at he
 split at he
 .cases he
  exact ⟨by kernel_rfl,fn_lines 0 _ _ _ _ _ fun _=>Flines_eq 0 _ _ _⟩
 .cases he
abbrev keepI:List Nat:=[7,8,1001,1002,1003,1004,1005]
def oI (body:Int) (g:List (List UInt8)) (i b:Int) (s:List UInt8) (rec:Loop):List (Nat×AObj):=[(1005,.raw (.loop rec)),(1004,.raw (.deferred (some []))),(7,.cells [.p (.int .i64 body)]),(8,.cells [.arr 81]),(81,.larr 9 true 1 (.dat .str g)),(1001,.cells [.p (.int .i64 i)]),(1002,.cells [.p (.int .i64 b)]),(1003,.cells [.p (.str s)])]
noncomputable def cS:Code:=bodyOf Tryz.f46
noncomputable def cI:Code:=bodyOf Tryz.f118
def cut0S:Cut:=⟨[6,7,8,34],[⟨.slot 7,7,.cells []⟩,⟨.slot 8,8,.cells []⟩,⟨.cell 8 0,81,(.larr 9 true 1 (.dat .str ([]:List (List UInt8))))⟩,⟨.comp 34 0,1001,.cells []⟩,⟨.comp 34 1,1002,.cells []⟩,⟨.comp 34 2,1003,.cells []⟩]⟩
noncomputable def kPre:K:=fun e s=>match e with | .normal=>kTag [] cut0S .normal s | .ret=>kP Tryz.prog Tryz.f46.results.toList .ret s | _=>none
noncomputable def GS0:Cfg:=⟨Tryz.prog,mkEnv [],mkEnvR [(78,sp_lines)],98,[],[],[([],[3])]⟩
theorem GS0_env:EnvOk Tryz.prog GS0.env:=EnvOk_mk (l:=[]) trivial
theorem GS0_envR:EnvROk Tryz.prog GS0.envR:=EnvROk_mk (l:=[(78,sp_lines)]) ⟨ok_lines,trivial⟩
theorem pre_eq (s:List UInt8) (a b:Int):runC GS0 agNone [] (at_ cS [0]) (mkS [(0,.p (.str s)),(1,.p (.int .i64 a)),(2,.p (.int .i64 b))] []) (kNext GS0 (at_ cS [1,0]) (kNext GS0 (at_ cS [1,1,0]) (kNext GS0 (at_ cS [1,1,1,0]) (kNext GS0 (at_ cS [1,1,1,1,0,0]) kPre))))=cond (((decide (a < (0:Int)))||(decide (b > (s.length:Int))))||(decide (a > b))) (some (.tup [.p .nil,.p (.int .i64 a)],[])) (some (.tup [.p (.int .i64 (-1)),.p .nil,.ref 7 0,.ref 8 0,.clo (.func 118) [] [.ref 1001 0,.ref 1002 0,.ref 1003 0]],[(7,.cells [.p (.int .i64 b)]),(8,.cells [.arr 81]),(81,.larr 9 true 1 (.dat .str ([]:List (List UInt8)))),(1001,.cells [.p (.int .i64 a)]),(1002,.cells [.p (.int .i64 b)]),(1003,.cells [.p (.str s)])])):=
 Eq.trans (show runC GS0 agNone [] (at_ cS [0]) (mkS [(0,.p (.str s)),(1,.p (.int .i64 a)),(2,.p (.int .i64 b))] []) (kNext GS0 (at_ cS [1,0]) (kNext GS0 (at_ cS [1,1,0]) (kNext GS0 (at_ cS [1,1,1,0]) (kNext GS0 (at_ cS [1,1,1,1,0,0]) kPre))))=need ((!(decide (a < (0:Int))))=true->(!(decide (a < (0:Int))))=true) (need ((!(decide (a < (0:Int))))=true->(!(decide (a < (0:Int))))=true) (need ((!(decide (a < (0:Int))))=true->(!(decide (a < (0:Int))))=true) (need ((decide (a < (0:Int)))=false->(!(decide (a < (0:Int))))=true) (need ((!((decide (a < (0:Int)))||(decide (b > (s.length:Int)))))=true->(!((decide (a < (0:Int)))||(decide (b > (s.length:Int)))))=true) (need ((!((decide (a < (0:Int)))||(decide (b > (s.length:Int)))))=true->(!((decide (a < (0:Int)))||(decide (b > (s.length:Int)))))=true) (need (((decide (a < (0:Int)))||(decide (b > (s.length:Int))))=false->(!((decide (a < (0:Int)))||(decide (b > (s.length:Int)))))=true) (cond (((decide (a < (0:Int)))||(decide (b > (s.length:Int))))||(decide (a > b))) (some (.tup [.p .nil,.p (.int .i64 a)],[])) (some (.tup [.p (.int .i64 (-1)),.p .nil,.ref 7 0,.ref 8 0,.clo (.func 118) [] [.ref 1001 0,.ref 1002 0,.ref 1003 0]],[(7,.cells [.p (.int .i64 b)]),(8,.cells [.arr 81]),(81,.larr 9 true 1 (.dat .str ([]:List (List UInt8)))),(1001,.cells [.p (.int .i64 a)]),(1002,.cells [.p (.int .i64 b)]),(1003,.cells [.p (.str s)])]))))))))) by kernel_rfl) (need_strike (show (!(decide (a < (0:Int))))=true->(!(decide (a < (0:Int))))=true from (fun q0=>q0)) (need_strike (show (!(decide (a < (0:Int))))=true->(!(decide (a < (0:Int))))=true from (fun q0=>q0)) (need_strike (show (!(decide (a < (0:Int))))=true->(!(decide (a < (0:Int))))=true from (fun q0=>q0)) (need_strike (show (decide (a < (0:Int)))=false->(!(decide (a < (0:Int))))=true from (fun q0=>(not_mk q0))) (need_strike (show (!((decide (a < (0:Int)))||(decide (b > (s.length:Int)))))=true->(!((decide (a < (0:Int)))||(decide (b > (s.length:Int)))))=true from (fun q0=>q0)) (need_strike (show (!((decide (a < (0:Int)))||(decide (b > (s.length:Int)))))=true->(!((decide (a < (0:Int)))||(decide (b > (s.length:Int)))))=true from (fun q0=>q0)) (need_strike (show ((decide (a < (0:Int)))||(decide (b > (s.length:Int))))=false->(!((decide (a < (0:Int)))||(decide (b > (s.length:Int)))))=true from (fun q0=>(not_mk q0))) (rfl))))))))
def cutI:Cut:=⟨[0,1,2,3,5,6],[⟨.fix 1005,1005,.cells []⟩,⟨.fix 1004,1004,.cells []⟩,⟨.fix 7,7,.cells []⟩,⟨.fix 8,8,.cells []⟩,⟨.cell 8 0,81,.cells []⟩,⟨.fix 1001,1001,.cells []⟩,⟨.fix 1002,1002,.cells []⟩,⟨.fix 1003,1003,.cells []⟩]⟩
noncomputable def GI:Cfg:=⟨Tryz.prog,mkEnv [(87,sp_ixb),(99,sp_ts)],mkEnvR [],34,keepI,[],[]⟩
theorem GI_env:EnvOk Tryz.prog GI.env:=EnvOk_mk (l:=[(87,sp_ixb),(99,sp_ts)]) ⟨ok_ixb.any,ok_ts.any,trivial⟩
theorem GI_envR:EnvROk Tryz.prog GI.envR:=EnvROk_mk (l:=[]) trivial
theorem it_eq (l:Nat) (s:List UInt8) (body i b:Int) (g:List (List UInt8)) (rec:Loop):runC GI agNone [] (at_ cI [0,0,0]) (mkS [(0,.clo (.yield l) [] []),(1,.ref 1001 0),(2,.ref 1002 0),(3,.ref 1003 0)] (oI body g i b s rec)) (kNext GI (at_ cI [0,0,1,0,0]) (kNext GI (at_ cI [0,0,1,0,1,0]) (kTag keepI cutI)))=cond (decide (i < b)) (need (0<=i/\i<=b/\b<=(s.length:Int)) (cond (decide ((ixS ((s.take (b).toNat).drop (i).toNat) (10:Int))>=(0:Int))) (need (0<=(ixS ((s.take (b).toNat).drop (i).toNat) (10:Int))/\(ixS ((s.take (b).toNat).drop (i).toNat) (10:Int))<=(((s.take (b).toNat).drop (i).toNat).length:Int)) (need ((((s.take (b).toNat).drop (i).toNat).take (ixS ((s.take (b).toNat).drop (i).toNat) (10:Int)).toNat).length<=1000000) (need (i64ok (i+(ixS ((s.take (b).toNat).drop (i).toNat) (10:Int)))) (need (i64ok ((i+(ixS ((s.take (b).toNat).drop (i).toNat) (10:Int)))+(1:Int))) (some (.tup [.p (.int .i64 (-1)),.clo (.yield l) [] [],.ref 1001 0,.ref 1002 0,.ref 1003 0,.p (.str (trimSuf (((s.take (b).toNat).drop (i).toNat).take (ixS ((s.take (b).toNat).drop (i).toNat) (10:Int)).toNat) ([13]:List UInt8))),.p (.int .i64 ((i+(ixS ((s.take (b).toNat).drop (i).toNat) (10:Int)))+(1:Int)))],(oI body g i b s rec))))))) (some (.tup [.p (.int .i64 (-1)),.clo (.yield l) [] [],.ref 1001 0,.ref 1002 0,.ref 1003 0,.p (.str ((s.take (b).toNat).drop (i).toNat)),.p (.int .i64 b)],(oI body g i b s rec))))) (some (.tup [.p (.int .i64 (0)),.clo (.yield l) [] [],.ref 1001 0,.ref 1002 0,.ref 1003 0,.any,.any],(oI body g i b s rec))):=by kernel_rfl
def cutI2:Cut:=⟨[0,1,2,3],[⟨.fix 1005,1005,.cells []⟩,⟨.fix 1004,1004,.cells []⟩,⟨.fix 7,7,.cells []⟩,⟨.fix 8,8,.cells []⟩,⟨.cell 8 0,81,.cells []⟩,⟨.fix 1001,1001,.cells []⟩,⟨.fix 1002,1002,.cells []⟩,⟨.fix 1003,1003,.cells []⟩]⟩
theorem it2_eq (l:Nat) (s:List UInt8) (body i b:Int) (g:List (List UInt8)) (nx:Int) (c:Bool) (rec:Loop):runC GI agNone [] (at_ cI [0,0,1,0,1,1,0,1]) (mkS [(0,.clo (.yield l) [] []),(1,.ref 1001 0),(2,.ref 1002 0),(3,.ref 1003 0),(6,.p (.int .i64 nx)),(32,.p (.bool c))] (oI body g i b s rec)) (kNext GI (at_ cI [0,0,1,0,1,1,1]) (kTag keepI cutI2))=cond (c) (some (.tup [.p (.int .i64 (-2)),.clo (.yield l) [] [],.ref 1001 0,.ref 1002 0,.ref 1003 0],(oI body g i b s rec))) (some (.tup [.p (.int .i64 (-1)),.clo (.yield l) [] [],.ref 1001 0,.ref 1002 0,.ref 1003 0],(oI body g nx b s rec))):=by kernel_rfl
noncomputable def rfA:Code:=match at_ cS [1,1,1,1,0,1,0] with | .rangeFunc _ _ x _=>x | c=>c
noncomputable def rfB:Code:=match at_ cS [1,1,1,1,0,1,0] with | .rangeFunc _ _ _ x=>x | c=>c
noncomputable def GR:Cfg:=⟨Tryz.prog,mkEnv [],mkEnvR [],98,keepI,[],[]⟩
theorem GR_env:EnvOk Tryz.prog GR.env:=EnvOk_mk (l:=[]) trivial
theorem GR_envR:EnvROk Tryz.prog GR.envR:=EnvROk_mk (l:=[]) trivial
def cutA:Cut:=⟨[7,8,9,10],[⟨.fix 1005,1005,.cells []⟩,⟨.fix 1004,1004,.cells []⟩,⟨.fix 7,7,.cells []⟩,⟨.fix 8,8,.cells []⟩,⟨.cell 8 0,81,.cells []⟩,⟨.fix 1001,1001,.cells []⟩,⟨.fix 1002,1002,.cells []⟩,⟨.fix 1003,1003,.cells []⟩]⟩
def cutB:Cut:=⟨[],[⟨.fix 1005,1005,.cells []⟩,⟨.fix 1004,1004,.cells []⟩,⟨.fix 7,7,.cells []⟩,⟨.fix 8,8,.cells []⟩,⟨.cell 8 0,81,.cells []⟩,⟨.fix 1001,1001,.cells []⟩,⟨.fix 1002,1002,.cells []⟩,⟨.fix 1003,1003,.cells []⟩]⟩
theorem asg_eq (s t:List UInt8) (body i b nx:Int) (g:List (List UInt8)) (rec:Loop):runC GR agNone [] rfA (mkS [(7,.ref 7 0),(8,.ref 8 0),(35,.p (.str t)),(36,.p (.int .i64 nx))] (oI body g i b s rec)) (kTag keepI cutA)=some (.tup [.p (.int .i64 (-1)),.ref 7 0,.ref 8 0,.p (.str t),.p (.int .i64 nx)],(oI body g i b s rec)):=by kernel_rfl
theorem rnd_eq (s t:List UInt8) (body i b nx:Int) (g:List (List UInt8)) (rec:Loop):runC GR agNone [] rfB (mkS [(7,.ref 7 0),(8,.ref 8 0),(9,.p (.str t)),(10,.p (.int .i64 nx))] (oI body g i b s rec)) (kTag keepI cutB)=cond (t==([]:List UInt8)) (some (.tup [.p (.int .i64 (0))],(oI nx g i b s rec))) (need ((decide ((g.length:Int) > (0:Int)))=true->0<=(0:Int)/\(0:Int) < (t.length:Int)) (need (((decide ((g.length:Int) > (0:Int)))&&(!(((t.getD ((0:Int)).toNat 0).toNat:Int)==(32:Int))))=true->0<=(0:Int)/\(0:Int) < (t.length:Int)) (cond ((decide ((g.length:Int) > (0:Int)))&&((((t.getD ((0:Int)).toNat 0).toNat:Int)==(32:Int))||(((t.getD ((0:Int)).toNat 0).toNat:Int)==(9:Int)))) (need (i64ok ((g.length:Int) - (1:Int))) (need (0<=((g.length:Int) - (1:Int))/\((g.length:Int) - (1:Int)) < (g.length:Int)) (need (((g.length:Int) - (1:Int)).toNat < g.length) (need (lenok ((g.getD (((g.length:Int) - (1:Int)).toNat) []).length+t.length)) (need (0<=((g.length:Int) - (1:Int))/\((g.length:Int) - (1:Int)) < (g.length:Int)) (need (((g.length:Int) - (1:Int)).toNat < g.length) (some (.tup [.p (.int .i64 (-1))],(oI body (g.set (((g.length:Int) - (1:Int)).toNat) ((g.getD (((g.length:Int) - (1:Int)).toNat) [])++t)) i b s rec))))))))) (need ((g.length+[t].length) * 16<=140737488355328) (some (.tup [.p (.int .i64 (-1))],(oI body (g++[t]) i b s rec))))))):=
 Eq.trans (show runC GR agNone [] rfB (mkS [(7,.ref 7 0),(8,.ref 8 0),(9,.p (.str t)),(10,.p (.int .i64 nx))] (oI body g i b s rec)) (kTag keepI cutB)=cond (t==([]:List UInt8)) (some (.tup [.p (.int .i64 (0))],(oI nx g i b s rec))) (need ((decide ((g.length:Int) > (0:Int)))=true->(decide ((g.length:Int) > (0:Int)))=true) (need ((decide ((g.length:Int) > (0:Int)))=true->0<=(0:Int)/\(0:Int) < (t.length:Int)) (need ((decide ((g.length:Int) > (0:Int)))=true->(decide ((g.length:Int) > (0:Int)))=true) (need ((decide ((g.length:Int) > (0:Int)))=true->(decide ((g.length:Int) > (0:Int)))=true) (need (((decide ((g.length:Int) > (0:Int)))&&(!(((t.getD ((0:Int)).toNat 0).toNat:Int)==(32:Int))))=true->((decide ((g.length:Int) > (0:Int)))&&(!(((t.getD ((0:Int)).toNat 0).toNat:Int)==(32:Int))))=true) (need (((decide ((g.length:Int) > (0:Int)))&&(!(((t.getD ((0:Int)).toNat 0).toNat:Int)==(32:Int))))=true->0<=(0:Int)/\(0:Int) < (t.length:Int)) (need (((decide ((g.length:Int) > (0:Int)))&&(!(((t.getD ((0:Int)).toNat 0).toNat:Int)==(32:Int))))=true->((decide ((g.length:Int) > (0:Int)))&&(!(((t.getD ((0:Int)).toNat 0).toNat:Int)==(32:Int))))=true) (need ((decide ((g.length:Int) > (0:Int)))=true->(decide ((g.length:Int) > (0:Int)))=true) (need ((decide ((g.length:Int) > (0:Int)))=true->(((t.getD ((0:Int)).toNat 0).toNat:Int)==(32:Int))=false->((decide ((g.length:Int) > (0:Int)))&&(!(((t.getD ((0:Int)).toNat 0).toNat:Int)==(32:Int))))=true) (need ((decide ((g.length:Int) > (0:Int)))=true->(decide ((g.length:Int) > (0:Int)))=true) (cond ((decide ((g.length:Int) > (0:Int)))&&((((t.getD ((0:Int)).toNat 0).toNat:Int)==(32:Int))||(((t.getD ((0:Int)).toNat 0).toNat:Int)==(9:Int)))) (need (i64ok ((g.length:Int) - (1:Int))) (need (0<=((g.length:Int) - (1:Int))/\((g.length:Int) - (1:Int)) < (g.length:Int)) (need (((g.length:Int) - (1:Int)).toNat < g.length) (need (lenok ((g.getD (((g.length:Int) - (1:Int)).toNat) []).length+t.length)) (need (0<=((g.length:Int) - (1:Int))/\((g.length:Int) - (1:Int)) < (g.length:Int)) (need (((g.length:Int) - (1:Int)).toNat < g.length) (some (.tup [.p (.int .i64 (-1))],(oI body (g.set (((g.length:Int) - (1:Int)).toNat) ((g.getD (((g.length:Int) - (1:Int)).toNat) [])++t)) i b s rec))))))))) (need ((g.length+[t].length) * 16<=140737488355328) (some (.tup [.p (.int .i64 (-1))],(oI body (g++[t]) i b s rec))))))))))))))) by kernel_rfl) (cond_congr (rfl) (need_strike (show (decide ((g.length:Int) > (0:Int)))=true->(decide ((g.length:Int) > (0:Int)))=true from (fun q0=>q0)) (need_congr (need_strike (show (decide ((g.length:Int) > (0:Int)))=true->(decide ((g.length:Int) > (0:Int)))=true from (fun q0=>q0)) (need_strike (show (decide ((g.length:Int) > (0:Int)))=true->(decide ((g.length:Int) > (0:Int)))=true from (fun q0=>q0)) (need_strike (show ((decide ((g.length:Int) > (0:Int)))&&(!(((t.getD ((0:Int)).toNat 0).toNat:Int)==(32:Int))))=true->((decide ((g.length:Int) > (0:Int)))&&(!(((t.getD ((0:Int)).toNat 0).toNat:Int)==(32:Int))))=true from (fun q0=>q0)) (need_congr (need_strike (show ((decide ((g.length:Int) > (0:Int)))&&(!(((t.getD ((0:Int)).toNat 0).toNat:Int)==(32:Int))))=true->((decide ((g.length:Int) > (0:Int)))&&(!(((t.getD ((0:Int)).toNat 0).toNat:Int)==(32:Int))))=true from (fun q0=>q0)) (need_strike (show (decide ((g.length:Int) > (0:Int)))=true->(decide ((g.length:Int) > (0:Int)))=true from (fun q0=>q0)) (need_strike (show (decide ((g.length:Int) > (0:Int)))=true->(((t.getD ((0:Int)).toNat 0).toNat:Int)==(32:Int))=false->((decide ((g.length:Int) > (0:Int)))&&(!(((t.getD ((0:Int)).toNat 0).toNat:Int)==(32:Int))))=true from (fun q0 q1=>(and_mk q0 (not_mk q1)))) (need_strike (show (decide ((g.length:Int) > (0:Int)))=true->(decide ((g.length:Int) > (0:Int)))=true from (fun q0=>q0)) (rfl))))))))))))
def oR (body:Int) (g:List (List UInt8)):List (Nat×AObj):=[(7,.cells [.p (.int .i64 body)]),(8,.cells [.arr 81]),(81,.larr 9 true 1 (.dat .str g))]
abbrev lR:List (Nat×AV):=[(6,.p .nil),(7,.ref 7 0),(8,.ref 8 0)]
noncomputable def GT:Cfg:=⟨Tryz.prog,mkEnv [(79,sp_fone)],mkEnvR [],98,[],[([0,1,0,1,1,1,1,1],⟨[6,7,66,67,68],[⟨.slot 6,6,(.larr 76 false 2 (.dat (.pair .str .str) ([]:List (List UInt8×List UInt8))))⟩,⟨.slot 7,7,.cells []⟩,⟨.slot 66,66,.cells []⟩]⟩),([1,0,1,0,0,1,1,0,0,1,0,1,1,1,1,1],⟨[6,7,13,66,67,68,84],[⟨.slot 6,6,(.larr 76 false 2 (.dat (.pair .str .str) ([]:List (List UInt8×List UInt8))))⟩,⟨.slot 7,7,.cells []⟩,⟨.slot 66,66,.cells []⟩]⟩),([1,1,1,0,0,1,0,1,1,1,1,1],⟨[6,7,66,67,68],[⟨.slot 6,6,(.larr 76 false 2 (.dat (.pair .str .str) ([]:List (List UInt8×List UInt8))))⟩,⟨.slot 7,7,.cells []⟩,⟨.slot 66,66,.cells []⟩]⟩)],[]⟩
theorem GT_env:EnvOk Tryz.prog GT.env:=EnvOk_mk (l:=[(79,sp_fone)]) ⟨ok_fone.any,trivial⟩
theorem GT_envR:EnvROk Tryz.prog GT.envR:=EnvROk_mk (l:=[]) trivial
noncomputable def Brest_1 (F f1:Nat) (vi1 vi2:Int) (vl3:List (List UInt8×List UInt8)) (vi4:Int) (vl5:List (List UInt8)):Option Ans:=runR GT cS (kP Tryz.prog Tryz.f46.results.toList) F [] [1,1,1,1,1,0,1,0] f1 [(6,.arr 6),(7,.ref 7 0),(66,.arr 66),(67,.p (.int .i64 vi1)),(68,.p (.int .i64 vi2))] [(6,.larr 76 false 2 (.dat (.pair .str .str) vl3)),(7,.cells [.p (.int .i64 vi4)]),(66,.larr 9 true 1 (.dat .str vl5))]
noncomputable def Brest_2 (F f1:Nat) (vs6:List UInt8) (vi1 vi2:Int) (vc7:Bool) (vl3:List (List UInt8×List UInt8)) (vi4:Int) (vl5:List (List UInt8)):Option Ans:=runB GT cS (kP Tryz.prog Tryz.f46.results.toList) F [f1] [1,1,1,1,1,0,1,0,0,1,1,0,0,1,0,1] [(6,.arr 6),(7,.ref 7 0),(13,.p (.str vs6)),(66,.arr 66),(67,.p (.int .i64 vi1)),(68,.p (.int .i64 vi2)),(84,.p (.bool vc7))] [(6,.larr 76 false 2 (.dat (.pair .str .str) vl3)),(7,.cells [.p (.int .i64 vi4)]),(66,.larr 9 true 1 (.dat .str vl5))]
noncomputable def Brest_3 (F f1:Nat) (vi1 vi2:Int) (vl8:List (List UInt8×List UInt8)) (vi9:Int) (vl10:List (List UInt8)):Option Ans:=runB GT cS (kP Tryz.prog Tryz.f46.results.toList) F [f1] [1,1,1,1,1,0,1,0,0,1,1,1] [(6,.arr 6),(7,.ref 7 0),(66,.arr 66),(67,.p (.int .i64 vi1)),(68,.p (.int .i64 vi2))] [(6,.larr 76 false 2 (.dat (.pair .str .str) vl8)),(7,.cells [.p (.int .i64 vi9)]),(66,.larr 9 true 1 (.dat .str vl10))]
theorem Brest_1_eq (F f1:Nat) (vi1 vi2:Int) (vl3:List (List UInt8×List UInt8)) (vi4:Int) (vl5:List (List UInt8)):Brest_1 F (f1+1) vi1 vi2 vl3 vi4 vl5=cond (decide (vi2 < vi1)) (need (0<=vi2/\vi2 < (vl5.length:Int)) (need ((vi2).toNat < vl5.length) (need ((vi2==(0:Int))=true->0<=(0:Int)/\(0:Int) < ((vl5.getD ((vi2).toNat) []).length:Int)) (need (((vi2==(0:Int))&&(!((((vl5.getD ((vi2).toNat) []).getD ((0:Int)).toNat 0).toNat:Int)==(32:Int))))=true->0<=(0:Int)/\(0:Int) < ((vl5.getD ((vi2).toNat) []).length:Int)) (Brest_2 F f1 (vl5.getD ((vi2).toNat) []) vi1 vi2 ((vi2==(0:Int))&&(((((vl5.getD ((vi2).toNat) []).getD ((0:Int)).toNat 0).toNat:Int)==(32:Int))||((((vl5.getD ((vi2).toNat) []).getD ((0:Int)).toNat 0).toNat:Int)==(9:Int)))) vl3 vi4 vl5))))) (some (.tup [.p (.list 2 (.dat (.pair .str .str) vl3)),.p (.int .i64 vi4)],[])):=
 Eq.trans (show Brest_1 F (f1+1) vi1 vi2 vl3 vi4 vl5=cond (decide (vi2 < vi1)) (need (0<=vi2/\vi2 < (vl5.length:Int)) (need ((vi2).toNat < vl5.length) (need ((vi2==(0:Int))=true->(vi2==(0:Int))=true) (need ((vi2==(0:Int))=true->0<=(0:Int)/\(0:Int) < ((vl5.getD ((vi2).toNat) []).length:Int)) (need ((vi2==(0:Int))=true->(vi2==(0:Int))=true) (need ((vi2==(0:Int))=true->(vi2==(0:Int))=true) (need (((vi2==(0:Int))&&(!((((vl5.getD ((vi2).toNat) []).getD ((0:Int)).toNat 0).toNat:Int)==(32:Int))))=true->((vi2==(0:Int))&&(!((((vl5.getD ((vi2).toNat) []).getD ((0:Int)).toNat 0).toNat:Int)==(32:Int))))=true) (need (((vi2==(0:Int))&&(!((((vl5.getD ((vi2).toNat) []).getD ((0:Int)).toNat 0).toNat:Int)==(32:Int))))=true->0<=(0:Int)/\(0:Int) < ((vl5.getD ((vi2).toNat) []).length:Int)) (need (((vi2==(0:Int))&&(!((((vl5.getD ((vi2).toNat) []).getD ((0:Int)).toNat 0).toNat:Int)==(32:Int))))=true->((vi2==(0:Int))&&(!((((vl5.getD ((vi2).toNat) []).getD ((0:Int)).toNat 0).toNat:Int)==(32:Int))))=true) (need ((vi2==(0:Int))=true->(vi2==(0:Int))=true) (need ((vi2==(0:Int))=true->((((vl5.getD ((vi2).toNat) []).getD ((0:Int)).toNat 0).toNat:Int)==(32:Int))=false->((vi2==(0:Int))&&(!((((vl5.getD ((vi2).toNat) []).getD ((0:Int)).toNat 0).toNat:Int)==(32:Int))))=true) (need ((vi2==(0:Int))=true->(vi2==(0:Int))=true) (Brest_2 F f1 (vl5.getD ((vi2).toNat) []) vi1 vi2 ((vi2==(0:Int))&&(((((vl5.getD ((vi2).toNat) []).getD ((0:Int)).toNat 0).toNat:Int)==(32:Int))||((((vl5.getD ((vi2).toNat) []).getD ((0:Int)).toNat 0).toNat:Int)==(9:Int)))) vl3 vi4 vl5))))))))))))) (some (.tup [.p (.list 2 (.dat (.pair .str .str) vl3)),.p (.int .i64 vi4)],[])) by kernel_rfl) (cond_congr (need_congr (need_congr (need_strike (show (vi2==(0:Int))=true->(vi2==(0:Int))=true from (fun q0=>q0)) (need_congr (need_strike (show (vi2==(0:Int))=true->(vi2==(0:Int))=true from (fun q0=>q0)) (need_strike (show (vi2==(0:Int))=true->(vi2==(0:Int))=true from (fun q0=>q0)) (need_strike (show ((vi2==(0:Int))&&(!((((vl5.getD ((vi2).toNat) []).getD ((0:Int)).toNat 0).toNat:Int)==(32:Int))))=true->((vi2==(0:Int))&&(!((((vl5.getD ((vi2).toNat) []).getD ((0:Int)).toNat 0).toNat:Int)==(32:Int))))=true from (fun q0=>q0)) (need_congr (need_strike (show ((vi2==(0:Int))&&(!((((vl5.getD ((vi2).toNat) []).getD ((0:Int)).toNat 0).toNat:Int)==(32:Int))))=true->((vi2==(0:Int))&&(!((((vl5.getD ((vi2).toNat) []).getD ((0:Int)).toNat 0).toNat:Int)==(32:Int))))=true from (fun q0=>q0)) (need_strike (show (vi2==(0:Int))=true->(vi2==(0:Int))=true from (fun q0=>q0)) (need_strike (show (vi2==(0:Int))=true->((((vl5.getD ((vi2).toNat) []).getD ((0:Int)).toNat 0).toNat:Int)==(32:Int))=false->((vi2==(0:Int))&&(!((((vl5.getD ((vi2).toNat) []).getD ((0:Int)).toNat 0).toNat:Int)==(32:Int))))=true from (fun q0 q1=>(and_mk q0 (not_mk q1)))) (need_strike (show (vi2==(0:Int))=true->(vi2==(0:Int))=true from (fun q0=>q0)) (rfl))))))))))))) (rfl))
theorem Brest_2_eq (F f1:Nat) (vs6:List UInt8) (vi1 vi2:Int) (vc7:Bool) (vl3:List (List UInt8×List UInt8)) (vi4:Int) (vl5:List (List UInt8)):Brest_2 F f1 vs6 vi1 vi2 vc7 vl3 vi4 vl5=cond (vc7) (Brest_3 F f1 vi1 vi2 vl3 vi4 vl5) (need (vs6.length<=1000000) (cond ((oneF vs6).2) (need ((vl3.length+[((oneF vs6).1.1,(oneF vs6).1.2)].length) * 32<=140737488355328) (Brest_3 F f1 vi1 vi2 (vl3++[((oneF vs6).1.1,(oneF vs6).1.2)]) vi4 vl5)) (Brest_3 F f1 vi1 vi2 vl3 vi4 vl5))):=by kernel_rfl
theorem Brest_3_eq (F f1:Nat) (vi1 vi2:Int) (vl8:List (List UInt8×List UInt8)) (vi9:Int) (vl10:List (List UInt8)):Brest_3 F f1 vi1 vi2 vl8 vi9 vl10=need (i64ok (vi2+(1:Int))) (Brest_1 F f1 vi1 (vi2+(1:Int)) vl8 vi9 vl10):=by kernel_rfl
theorem rest_eq (F:Nat) (body:Int) (g:List (List UInt8)):runC GT (runL GT F) [1,1,1,1,1] (at_ cS [1,1,1,1,1]) (mkS lR (oR body g)) (kP Tryz.prog Tryz.f46.results.toList)=Brest_1 F F (g.length:Int) (0:Int) ([]:List (List UInt8×List UInt8)) body g:=by kernel_rfl
end Go.Proofs.YtoanepondbagcaaGreatDoor
namespace Go.Am
open Go Go.RowKit
variable {P:Program} {C C':Ctx} {s s':S} {a a':Act} {w w' w1 w2:World} {γ γ' γ1 γ2:Nat->Option G} {M M' M1 M2:Mem} {o o' o1 o2:List (Nat×AObj)}
theorem Hold.of_st {l:List (Nat×AV)} (h:StG C γ M (mkS l o) a w):Hold γ M w o:=by
 refine ⟨h.ob,fun id hu=>h.us id ?_,h.sep,fun id g b h1 h2 h3=>(h.lo id g b h1 h2 h3).2,⟨h.wok,fun b ⟨id,g,h1,h2,h3⟩=>h.notab (s:=mkS l o) h1 h2 h3⟩⟩
 show (lookO id o).isSome=false
 rw [hu]; rfl
theorem aops_then {env:Env} (henv:EnvOk P env) {ops:Array Oper} {Q:Exit->Act->World->Prop} {l2:List Nat}:∀ (l:List Nat) {s s':S} {ps:List Prop} {a:Act} {w:World},
 aops P env C.nt ops l s=some (s',ps)->All ps->St C s a w->(∀ a' w',St C s' a' w'->wpOpsIn (FW C.rd) 0 P ops Q l2 a' w')->wpOpsIn (FW C.rd) 0 P ops Q (l++l2) a w:=by
 intro l
 induction l with
 | nil=>intro s s' ps a w h hp hs hq; cases h; exact hq a w hs
 | cons i r ih=>
  intro s s' ps a w h hp hs hq
  simp only [aops] at h
  simp only [List.cons_append,wpOpsIn]
  cases ho:ops[i]? with
  | none=>rw [ho] at h; cases h
  | some o=>
   rw [ho] at h
   dsimp only at h ⊢
   cases h1:astep P env C.nt ops o s with
   | none=>rw [h1] at h; cases h
   | some q=>
    obtain ⟨s1,p1⟩:=q
    rw [h1] at h
    dsimp only at h
    cases h2:aops P env C.nt ops r s1 with
    | none=>rw [h2] at h; cases h
    | some q=>
     obtain ⟨s2,p2⟩:=q
     rw [h2] at h
     cases h
     obtain ⟨hp1,hp2⟩:=All.append hp
     have:=astep_sound henv h1 hp1 hs (next:=wpOpsIn (FW C.rd) 0 P ops Q (r++l2)) (Q:=Q) fun a' w' hs'=>ih h2 hp2 hs' hq
     split
     .rename_i hw; rw [if_pos hw] at this; exact this
     .rename_i hw; rw [if_neg hw] at this; exact ⟨fun _ _=>trivial,this⟩
def aopsK (P:Program) (env:Env) (nt:Nat) (ops:Array Oper) (l:List Nat) (s:S) (fx:List Nat) (c:Cut):Option (Ans×List Prop):=
 match aops P env nt ops l s with
 | some (s',ps)=>match kTag fx c .normal s' with
  | some r=>some (r,ps)
  | none=>none
 | none=>none
theorem aopsK_get {nt:Nat} {fx:List Nat} (hC:CtxOk C nt fx) {env:Env} (henv:EnvOk P env) {ops:Array Oper} {Q:Exit->Act->World->Prop} {l l2:List Nat} {c:Cut} {t:AV} {xs:List AV} {ps:List Prop}
 (h:aopsK P env nt ops l s fx c=some ((.tup (t::xs),o),ps)) (hp:All ps) (hs:St C s a w) (hq:∀ a' w',St C (mkS (List.zip c.slots xs) o) a' w'->wpOpsIn (FW C.rd) 0 P ops Q l2 a' w'):wpOpsIn (FW C.rd) 0 P ops Q (l++l2) a w:=by
 unfold aopsK at h
 split at h
 .rename_i s' ps' he
  split at h
  .rename_i r hk
   cases h
   rw [<-hC.nt] at he
   exact aops_then henv l he hp hs fun a' w' hs'=>hq a' w' ((kTag_get hC hk).2 _ _ hs')
  .cases h
 .cases h
theorem ops_cons {F:Fence} {n:Nat} {ops:Array Oper} {Q:Exit->Act->World->Prop} {i:Nat} {rest:List Nat} {o:Oper} (ho:ops[i]?=some o) (hg:o.guard=none) (h:o.wpIn F n P a w (wpOpsIn F n P ops Q rest) Q):wpOpsIn F n P ops Q (i::rest) a w:=by
 unfold wpOpsIn
 rw [ho]
 dsimp only
 rw [if_pos (by simp [Region.wanted,hg])]
 exact h
theorem sl_nil {f:Nat->Value}:∀ t,ARel γ M (look t .any []) (f t):=fun _=>.any _
theorem sl_cons {f:Nat->Value} {k:Nat} {x:AV} {l:List (Nat×AV)} (h:ARel γ M x (f k)) (hr:∀ t,ARel γ M (look t .any l) (f t)):∀ t,ARel γ M (look t .any ((k,x)::l)) (f t):=by
 intro t
 unfold look
 cases hb:Nat.beq t k with
 | true=>rw [Nat.eq_of_beq_eq_true hb]; exact h
 | false=>exact hr t
theorem lookO_ne {id:Nat} {x y:AObj} {r:List (Nat×AObj)}:∀ i,i≠id->lookO i ((id,x)::r)=lookO i ((id,y)::r):=by
 intro i hi
 unfold lookO
 cases hb:Nat.beq i id with
 | true=>exact absurd (Nat.eq_of_beq_eq_true hb) hi
 | false=>rfl
theorem lookO_hd {id:Nat} {x:AObj} {r:List (Nat×AObj)}:lookO id ((id,x)::r)=some x:=by
 unfold lookO
 rw [Nat.beq_refl]
theorem ARel.ref_kept {γ γ':Nat->Option G} {M M':Mem} {id off:Nat} {v:Value} (h:ARel γ M (.ref id off) v) (k:∀ g,γ id=some g->γ' id=some g):ARel γ' M' (.ref id off) v:=by
 cases h with | ref _ _ b hb=>exact .ref _ _ b (k _ hb)
theorem ARel.p_any {γ γ':Nat->Option G} {M M':Mem} (hM:MLe M M') {x:PV} {v:Value} (h:ARel γ M (.p x) v):ARel γ' M' (.p x) v:=.p _ _ (h.p_inv.mono hM)
theorem ARel.clo0 {fn:Fn} {v:Value} (h:ARel γ M (.clo fn [] []) v):v=.func fn #[] #[]:=by
 cases h with
 | clo _ _ _ vf vc hf hc _ _=>
  have e1:vf=#[]:=Array.eq_empty_of_size_eq_zero hf
  have e2:vc=#[]:=Array.eq_empty_of_size_eq_zero hc
  rw [e1,e2]
theorem arr3 {v:Array Value} (h:v.size=3):∃ x y z,v=#[x,y,z]:=by
 obtain ⟨l⟩:=v
 match l,h with
 | [x,y,z],_=>exact ⟨x,y,z,rfl⟩
theorem ARel.clo3 {fn:Fn} {x y z:AV} {v:Value} (h:ARel γ M (.clo fn [] [x,y,z]) v):∃ p q r,v=.func fn #[] #[p,q,r]/\ARel γ M x p/\ARel γ M y q/\ARel γ M z r:=by
 cases h with
 | clo _ _ _ vf vc hf hc _ h2=>
  have e1:vf=#[]:=Array.eq_empty_of_size_eq_zero hf
  obtain ⟨p,q,r,rfl⟩:=arr3 hc
  exact ⟨p,q,r,by rw [e1],h2 0 (by simp),h2 1 (by simp),h2 2 (by simp)⟩
theorem Hold.raw_at (h:Hold γ M w o) {id b:Nat} {x:Obj} (hid:lookO id o=some (.raw x)) (hb:γ id=some (.cell b)):w.heap[b]?=some x/\b < w.heap.size:=by
 obtain ⟨b',hg',hx,_⟩:=h.ob id _ hid
 rw [hb] at hg'; cases hg'
 exact ⟨hx,h.lt id _ b (by rw [hid]; simp) hb rfl⟩
theorem gset {tm:Array Value} {k t:Nat} {v:Value} (hk:k < tm.size):(tm.setIfInBounds k v).getD t undef=if k=t then v else tm.getD t undef:=by
 rw [Array.getD_eq_getD_getElem?,Array.getElem?_setIfInBounds]
 split
 .rename_i h; subst h; simp []
 .rw [Array.getD_eq_getD_getElem?]
theorem st_init {nt:Nat} {l:List (Nat×AV)} {tm:Array Value} (hM:WOk M w) (hsl:∀ t,ARel γ0 M (look t .any l) (tm.getD t undef)) (hn:tm.size=nt):
 StG { w0:=w,M0:=M,own:=fun _=>False,nt:=nt,g0:=γ0 } γ0 M (mkS l []) { tmps:=tm,defers:=[] } w:=by
 refine ⟨hsl,?_,fun _ _=>rfl,?_,?_,hM.toMOk,MLe.refl M,fun _ _ _=>rfl,⟨rfl,rfl,rfl,Nat.le_refl _,fun _ _ _=>rfl,hM.tabs,fun _ h=>h.elim⟩,rfl,hn,GLe.refl γ0⟩
 .intro id o ho; cases ho
 .intro id id' g g' b h1; exact absurd rfl h1
 .intro id g b h1; exact absurd rfl h1
theorem chain3 {G:Cfg} (hG:CfgOk G P C) {nt:Nat} {fx:List Nat} (hC:CtxOk C nt fx) {c1 c2 c3 c4:Code} {c:Cut} {t:AV} {xs:List AV} {Q:Exit->Act->World->Prop} {b:Nat}
 (hv:runC G agNone [] c1 s (kNext G c2 (kNext G c3 (kTag fx c)))=some (.tup (t::xs),o)) (hs:St C s a w)
 (hn:∀ a w,t=.p (.int .i64 (-1))->St C (mkS (List.zip c.slots xs) o) a w->c4.wpIn (FW C.rd) 0 P (Exit.inBlock b Q) a w)
 (he:∀ e a w,e≠.normal->tagOf e=t->St C (mkS (List.zip c.slots xs) o) a w->Q e a w/\Exit.inBlock b Q e a w):
 (Code.seq c1 (.block b (.seq c2 (.seq c3 c4)))).wpIn (FW C.rd) 0 P Q a w:=by
 have key:∀ e s' a' w',e≠.normal->kTag fx c e s'=some (.tup (t::xs),o)->St C s' a' w'->Q e a' w'/\Exit.inBlock b Q e a' w':=by
  intro e s' a' w' hne hk hs'
  obtain ⟨h1,h2⟩:=kTag_get hC hk
  exact he e a' w' hne h1 (h2 _ _ hs')
 refine wpIn_seq (wpIn_piece hG hv hs fun e s1 a1 w1 hk1 hs1=>?_)
 cases e with
 | normal=>
  refine wpIn_block (wpIn_seq (wpIn_piece hG (s:=s1) hk1 hs1 fun e s2 a2 w2 hk2 hs2=>?_))
  cases e with
  | normal=>
   refine wpIn_seq (wpIn_piece hG (s:=s2) hk2 hs2 fun e s3 a3 w3 hk3 hs3=>?_)
   cases e with
   | normal=>
    obtain ⟨h1,h2⟩:=kTag_get hC hk3
    exact hn a3 w3 h1.symm (h2 _ _ hs3)
   | exit i=>exact (key (.exit i) s3 a3 w3 (by simp) hk3 hs3).2
   | ret=>exact (key .ret s3 a3 w3 (by simp) hk3 hs3).2
   | goto i=>exact (key (.goto i) s3 a3 w3 (by simp) hk3 hs3).2
   | panic i=>exact (key (.panic i) s3 a3 w3 (by simp) hk3 hs3).2
   | outgrown=>exact (key .outgrown s3 a3 w3 (by simp) hk3 hs3).2
  | exit i=>exact (key (.exit i) s2 a2 w2 (by simp) hk2 hs2).2
  | ret=>exact (key .ret s2 a2 w2 (by simp) hk2 hs2).2
  | goto i=>exact (key (.goto i) s2 a2 w2 (by simp) hk2 hs2).2
  | panic i=>exact (key (.panic i) s2 a2 w2 (by simp) hk2 hs2).2
  | outgrown=>exact (key .outgrown s2 a2 w2 (by simp) hk2 hs2).2
 | exit i=>exact (key (.exit i) s1 a1 w1 (by simp) hk1 hs1).1
 | ret=>exact (key .ret s1 a1 w1 (by simp) hk1 hs1).1
 | goto i=>exact (key (.goto i) s1 a1 w1 (by simp) hk1 hs1).1
 | panic i=>exact (key (.panic i) s1 a1 w1 (by simp) hk1 hs1).1
 | outgrown=>exact (key .outgrown s1 a1 w1 (by simp) hk1 hs1).1
theorem wpIn_pieceLp {G:Cfg} (hG:CfgOk G P C) (F:Nat) (p:List Nat) {c:Code} {s:S} {k:K} {r:Ans} {R:Exit->Act->World->Prop} (h:runC G (runL G F) p c s k=some r) (hs:St C s a w) (hk:∀ e s' a' w',k e s'=some r->St C s' a' w'->R e a' w'):c.wpIn (FW C.rd) 0 P R a w:=
 wpIn_mono ((runC_sound hG (fun p b s k Q=>runL_sound hG F p b s k Q) c p s k (fun e s'=>k e s'=some r) h (fun _ _ h=>h):T P C c s _) a w hs) fun e a' w' ⟨s',h1,h2⟩=>hk e s' a' w' h1 h2
end Go.Am
namespace Go.Proofs.YtoanepondbagcaaGreatDoor
open Go Go.Am
set_option linter.unusedVariables false
noncomputable def mkRec (fn:FuncId) (tm:Array Value) (D:Nat) (st:LoopState) (pe:Option Code):Loop:={ state:=st,pending:=pe,fn:=fn,tmps:=tm,params:=#[35,36],assign:=rfA,body:=rfB,defers:=D }
def stp (t:List UInt8) (nx body:Int) (g:List (List UInt8)):Option Code×Int×List (List UInt8):=
 if t=[] then (some (.exit 0),nx,g) else if g≠[]/\isBlank1 t=true then (none,body,g.set (g.length - 1) (g.getD (g.length - 1) []++t)) else (none,body,g++[t])
def tgJ (j:Option Code):AV:=match j with | none=>.p (.int .i64 (-1)) | some _=>.p (.int .i64 0)
theorem blank_eq (c:UInt8):(((c.toNat:Int)==(32:Int))||((c.toNat:Int)==(9:Int)))=(c==32||c==9):=by
 have h:∀ k:Nat,k < 256->(((c.toNat:Int)==((k:Nat):Int))=(c==UInt8.ofNat k)):=by
  intro k hk
  rw [Bool.eq_iff_iff,beq_iff_eq,beq_iff_eq]
  constructor
  .intro e
   have e:c.toNat=k:=by omega
   rw [<-e]; simp
  .intro e; rw [e]; simp; omega
 rw [show (32:Int)=((32:Nat):Int) from rfl,show (9:Int)=((9:Nat):Int) from rfl,h 32 (by decide),h 9 (by decide)]; rfl
theorem isBlank_eq {t:List UInt8} (h0:t≠[]):(((((t.getD ((0:Int)).toNat 0).toNat:Int)==(32:Int)))||(((t.getD ((0:Int)).toNat 0).toNat:Int)==(9:Int)))=isBlank1 t:=by
 cases t with
 | nil=>exact absurd rfl h0
 | cons c r=>exact blank_eq c
theorem getD_mem {α:Type} {l:List α} {i:Nat} (h:i < l.length) (d:α):l.getD i d ∈ l:=by
 rw [List.getD_eq_getElem?_getD,List.getElem?_eq_getElem h]; exact List.getElem_mem h
theorem rnd_val (s t:List UInt8) (body i b nx:Int) (g:List (List UInt8)) (rec:Loop) (hg:g.length<=1000000) (hx:∀ x ∈ g,x.length<=1000000) (ht:t.length<=1000000):
 runC GR agNone [] rfB (mkS [(7,.ref 7 0),(8,.ref 8 0),(9,.p (.str t)),(10,.p (.int .i64 nx))] (oI body g i b s rec)) (kTag keepI cutB)=some (.tup [tgJ (stp t nx body g).1],oI (stp t nx body g).2.1 (stp t nx body g).2.2 i b s rec):=by
 rw [rnd_eq]
 unfold stp
 by_cases h0:t=[]
 .rw [if_pos h0]; exact cond_t (by simpa using h0) rfl
 .rw [if_neg h0]
  refine cond_f (by simpa using h0) ?_
  have hl:=List.length_pos_iff.2 h0
  refine need_mk (fun _=>⟨by omega,by omega⟩) (need_mk (fun _=>⟨by omega,by omega⟩) ?_)
  rw [isBlank_eq h0]
  by_cases h1:g≠[]/\isBlank1 t=true
  .rw [if_pos h1]
   have hgl:=List.length_pos_iff.2 h1.1
   refine cond_t (by rw [h1.2,Bool.and_true]; simpa using hgl) ?_
   have e:((g.length:Int) - 1).toNat=g.length - 1:=by omega
   have hlast:=hx _ (getD_mem (show g.length - 1 < g.length by omega) [])
   rw [e]
   refine need_mk (by unfold i64ok; omega) (need_mk ⟨by omega,by omega⟩ (need_mk (by omega) (need_mk (by unfold lenok; omega) (need_mk ⟨by omega,by omega⟩ (need_mk (by omega) rfl)))))
  .rw [if_neg h1]
   refine cond_f ?_ (need_mk (by simp; omega) rfl)
   cases hb:isBlank1 t with
   | false=>rw [Bool.and_false]
   | true=>
    have:g=[]:=Classical.byContradiction fun q=>h1 ⟨q,hb⟩
    rw [this]; rfl
abbrev Kept (γ γ':Nat->Option G):Prop:=∀ k ∈ keepI,∀ x,γ k=some x->γ' k=some x
theorem Kept.trans {γ γ1 γ2:Nat->Option G} (h:Kept γ γ1) (k:Kept γ1 γ2):Kept γ γ2:=fun i hi x hx=>k i hi x (h i hi x hx)
theorem oI_rec {γ:Nat->Option G} {M:Mem} {w:World} {body i b:Int} {g:List (List UInt8)} {s:List UInt8} {l:Nat} {r:Loop} (r':Loop) (h:Hold γ M w (oI body g i b s r)) (hl:γ 1005=some (.cell l)):
 Hold γ M (w.putObj l (.loop r')) (oI body g i b s r')/\Chg γ (oI body g i b s r) M w γ (oI body g i b s r') M (w.putObj l (.loop r')):=
 h.setraw (id:=1005) (x:=.loop r) (y:=.loop r') lookO_hd hl lookO_hd lookO_ne
theorem round_ok {γ:Nat->Option G} {M:Mem} {w:World} {s t:List UInt8} {body i b nx:Int} {g:List (List UInt8)} {fn:FuncId} {tm:Array Value} {D l:Nat} {vt vn:Value}
 (hH:Hold γ M w (oI body g i b s (mkRec fn tm D .ready none))) (hl:γ 1005=some (.cell l)) (h7:ARel γ M (.ref 7 0) (tm.getD 7 undef)) (h8:ARel γ M (.ref 8 0) (tm.getD 8 undef))
 (ht:ARel γ M (.p (.str t)) vt) (hn:ARel γ M (.p (.int .i64 nx)) vn) (hsz:tm.size=98) (hg:g.length<=1000000) (hx:∀ x ∈ g,x.length<=1000000) (htl:t.length<=1000000):
 RoundIn (FW none) 0 Tryz.prog l fn ((tm.setIfInBounds 35 vt).setIfInBounds 36 vn) rfA rfB w fun e W'=>∃ (jump:Option Code) (γ':Nat->Option G) (M':Mem),e=.returned (.bool jump.isNone)/\(stp t nx body g).1=jump/\
  Hold γ' M' W' (oI (stp t nx body g).2.1 (stp t nx body g).2.2 i b s (mkRec fn tm D (if jump.isNone then .ready else .done) jump))/\
  Chg γ (oI body g i b s (mkRec fn tm D .ready none)) M w γ' (oI (stp t nx body g).2.1 (stp t nx body g).2.2 i b s (mkRec fn tm D (if jump.isNone then .ready else .done) jump)) M' W'/\Kept γ γ':=by
 refine RoundIn.mono (round_st (r:=mkRec fn tm D .ready none) (R:=fun jump W3=>∃ (γ':Nat->Option G) (M':Mem),(stp t nx body g).1=jump/\Hold γ' M' W3 (oI (stp t nx body g).2.1 (stp t nx body g).2.2 i b s (mkRec fn tm D .busy none))/\
  Chg γ (oI body g i b s (mkRec fn tm D .ready none)) M w γ' (oI (stp t nx body g).2.1 (stp t nx body g).2.2 i b s (mkRec fn tm D .busy none)) M' W3/\Kept γ γ') rfl ?_) ?_
 .have hG:CfgOk GR Tryz.prog (ctxOf w M γ (oI body g i b s (mkRec fn tm D .ready none)) keepI 98 (some l) []):=⟨rfl,GR_env,GR_envR,ctxOf_ok,Checked.mixed Tryz.checked⟩
  have hs0:St (ctxOf w M γ (oI body g i b s (mkRec fn tm D .ready none)) keepI 98 (some l) []) (mkS [(7,.ref 7 0),(8,.ref 8 0),(35,.p (.str t)),(36,.p (.int .i64 nx))] (oI body g i b s (mkRec fn tm D .ready none))) { tmps:=(tm.setIfInBounds 35 vt).setIfInBounds 36 vn,defers:=[] } w:=by
   refine ⟨γ,M,hH.lend (sl_cons ?_ (sl_cons ?_ (sl_cons ?_ (sl_cons ?_ sl_nil)))) rfl (by simp [hsz])⟩
   .rw [gset (by simp [hsz]),if_neg (by decide),gset (by simp [hsz]),if_neg (by decide)]; exact h7
   .rw [gset (by simp [hsz]),if_neg (by decide),gset (by simp [hsz]),if_neg (by decide)]; exact h8
   .rw [gset (by simp [hsz]),if_neg (by decide),gset (by simp [hsz]),if_pos rfl]; exact ht
   .rw [gset (by simp [hsz]),if_pos rfl]; exact hn
  refine wpIn_piece hG (asg_eq s t body i b nx g _) hs0 fun e s1 a1 w1 hk1 hs1=>?_
  obtain ⟨htag,hsub⟩:=kTag_get (ctxOf_ok (w:=w)) hk1
  have:=tagOf_normal htag
  subst this
  obtain ⟨γ1,M1,hs1⟩:=hsub _ _ hs1
  obtain ⟨hH1,hC1,hK1,hsl1,hdf1,hnt1⟩:=Hold.back hs1
  have hl1:=hK1 1005 (by decide) _ hl
  refine ⟨(hH1.raw_at lookO_hd hl1).1,?_⟩
  obtain ⟨hH2,hC2⟩:=oI_rec (mkRec fn tm D .busy none) hH1 hl1
  have hG2:CfgOk GR Tryz.prog (ctxOf (w1.putObj l (.loop (mkRec fn tm D .busy none))) M1 γ1 (oI body g i b s (mkRec fn tm D .busy none)) keepI 98 (some l) []):=⟨rfl,GR_env,GR_envR,ctxOf_ok,Checked.mixed Tryz.checked⟩
  refine wpIn_piece hG2 (rnd_val s t body i b nx g (mkRec fn tm D .busy none) hg hx htl) ⟨γ1,M1,hH2.lend hsl1 hdf1 hnt1⟩ fun e s2 a2 w2 hk2 hs2=>?_
  obtain ⟨htag2,hsub2⟩:=kTag_get (ctxOf_ok (w:=w1.putObj l (.loop (mkRec fn tm D .busy none)))) hk2
  obtain ⟨γ2,M2,hs2⟩:=hsub2 _ _ hs2
  obtain ⟨hH3,hC3,hK3,_,_,_⟩:=Hold.back hs2
  have hl3:=hK3 1005 (by decide) _ hl1
  have hb:=(hH3.raw_at lookO_hd hl3).1
  have hKK:Kept γ γ2:=fun k hk x hx=>hK3 k hk x (hK1 k hk x hx)
  cases hj:(stp t nx body g).1 with
  | none=>
   rw [hj] at htag2
   have:=tagOf_normal htag2
   subst this
   exact ⟨hb,γ2,M2,rfl,hH3,(hC1.trans hC2).trans hC3,hKK⟩
  | some c=>
   have hc:c=.exit 0:=by
    unfold stp at hj
    split at hj
    .exact (Option.some.inj hj).symm
    .split at hj <;> cases hj
   rw [hj] at htag2
   have:=tagOf_exit (i:=0) htag2
   subst this
   exact ⟨hb,γ2,M2,by rw [hc],hH3,(hC1.trans hC2).trans hC3,hKK⟩
 .rintro e W' ⟨jump,W3,he,hW,γ',M',hj,hH,hC,hK⟩
  obtain ⟨hH4,hC4⟩:=oI_rec (mkRec fn tm D (if jump.isNone then .ready else .done) jump) hH (hK 1005 (by decide) _ hl)
  exact ⟨jump,γ',M',he,hj,by rw [hW]; exact hH4,by rw [hW]; exact hC.trans hC4,hK⟩
def nextL (s:List UInt8) (i b:Nat):List UInt8×Nat:=
 if ixS ((s.take b).drop i) 10>=0 then (trimSuf (((s.take b).drop i).take (ixS ((s.take b).drop i) 10).toNat) [13],i+(ixS ((s.take b).drop i) 10).toNat+1) else ((s.take b).drop i,b)
theorem nextL_spec {s:List UInt8} {i b:Nat} (hi:i < b) (hb:b<=s.length):linesN s i b=(i,(nextL s i b).1,(nextL s i b).2)::linesN s (nextL s i b).2 b/\i < (nextL s i b).2/\(nextL s i b).2<=b/\(nextL s i b).1.length<=(nextL s i b).2 - i:=by
 have hlen:((s.take b).drop i).length=b - i:=by simp; omega
 have hix:ixS ((s.take b).drop i) 10=Lib.indexByte ((s.take b).drop i) 10:=ixS_u8 _ 10
 unfold nextL linesN
 rw [hix]
 rcases ixb_split 10 ((s.take b).drop i) with ⟨p,q,e,hp,hk⟩ | ⟨hn,hk⟩
 .have hl2:p.length+1+q.length=b - i:=by rw [<-hlen,e]; simp; omega
  rw [hk,if_pos (by omega),Int.toNat_natCast]
  have hq:(s.take b).drop (i+p.length+1)=q:=by
   rw [Nat.add_assoc,<-List.drop_drop,e,show p.length+1=(p++[(10:UInt8)]).length by simp,show p++10::q=(p++[10])++q by simp,List.drop_left]
  have hp2:((s.take b).drop i).take p.length=p:=by rw [e,List.take_left]
  refine ⟨?_,by omega,by dsimp only; omega,?_⟩
  .dsimp only
   rw [hq,hp2,e,lnF_nl [] i hp,List.nil_append]
  .dsimp only
   have:=trimSuf_len (((s.take b).drop i).take p.length) [13]
   rw [hp2] at this ⊢
   omega
 .rw [hk,if_neg (by decide)]
  refine ⟨?_,hi,Nat.le_refl _,by dsimp only; omega⟩
  have h0:(s.take b).drop i≠[]:=by intro h; rw [h] at hlen; simp at hlen; omega
  rw [lnF_end [] i hn,List.nil_append,if_neg h0,hlen]
  have:(s.take b).drop b=[]:=by rw [List.drop_eq_nil_iff]; simp; omega
  dsimp only
  rw [this,lnF,if_pos rfl,show i+(b - i)=b by omega]
theorem linesN_nil {s:List UInt8} {i b:Nat} (h:b<=i):linesN s i b=[]:=by
 have:(s.take b).drop i=[]:=by rw [List.drop_eq_nil_iff]; simp; omega
 unfold linesN; rw [this,lnF,if_pos rfl]
theorem it_val {l:Nat} {s:List UInt8} {i b:Nat} {body:Int} {g:List (List UInt8)} {rec:Loop} (hi:i < b) (hb:b<=s.length) (hs:s.length<=1000000):
 runC GI agNone [] (at_ cI [0,0,0]) (mkS [(0,.clo (.yield l) [] []),(1,.ref 1001 0),(2,.ref 1002 0),(3,.ref 1003 0)] (oI body g i b s rec)) (kNext GI (at_ cI [0,0,1,0,0]) (kNext GI (at_ cI [0,0,1,0,1,0]) (kTag keepI cutI)))=
  some (.tup [.p (.int .i64 (-1)),.clo (.yield l) [] [],.ref 1001 0,.ref 1002 0,.ref 1003 0,.p (.str (nextL s i b).1),.p (.int .i64 ((nextL s i b).2:Nat))],oI body g i b s rec):=by
 rw [it_eq]
 have hlen:((s.take b).drop i).length=b - i:=by simp; omega
 refine cond_t (by simpa using hi) (need_mk ⟨by omega,by omega,by omega⟩ ?_)
 rw [Int.toNat_natCast,Int.toNat_natCast]
 unfold nextL
 have h:=ixS_lt ((s.take b).drop i) 10
 by_cases hc:ixS ((s.take b).drop i) 10>=0
 .rw [if_pos hc]
  have e:(i:Int)+ixS ((s.take b).drop i) 10+1=((i+(ixS ((s.take b).drop i) 10).toNat+1:Nat):Int):=by omega
  refine cond_t (by simpa using hc) (need_mk ⟨by omega,by omega⟩ (need_mk (by simp; omega) (need_mk (by unfold i64ok; omega) (need_mk (by unfold i64ok; omega) ?_))))
  rw [e]
 .rw [if_neg hc]
  exact cond_f (by simpa using hc) rfl
theorem it_end {l:Nat} {s:List UInt8} {i b:Nat} {body:Int} {g:List (List UInt8)} {rec:Loop} (hi:¬ i < b):
 runC GI agNone [] (at_ cI [0,0,0]) (mkS [(0,.clo (.yield l) [] []),(1,.ref 1001 0),(2,.ref 1002 0),(3,.ref 1003 0)] (oI body g i b s rec)) (kNext GI (at_ cI [0,0,1,0,0]) (kNext GI (at_ cI [0,0,1,0,1,0]) (kTag keepI cutI)))=
  some (.tup [.p (.int .i64 0),.clo (.yield l) [] [],.ref 1001 0,.ref 1002 0,.ref 1003 0,.any,.any],oI body g i b s rec):=by
 rw [it_eq]
 exact cond_f (by simp; omega) rfl
end Go.Proofs.YtoanepondbagcaaGreatDoor
namespace Go.Proofs.YtoanepondbagcaaGreatDoor
open Go Go.Am
set_option linter.unusedVariables false
noncomputable def opsI:Array Oper:=opsOf (at_ cI [0,0,1,0,1,1,0,0])
def cutY:Cut:=⟨[0,1,2,3,6,28,29,30],cutI.own⟩
def cutN:Cut:=⟨[0,1,2,3,6,32],cutI.own⟩
theorem mv_eq (l:Nat) (s t:List UInt8) (body i b nx:Int) (g:List (List UInt8)) (rec:Loop):aopsK Tryz.prog GI.env 34 opsI [0,1,2] (mkS [(0,.clo (.yield l) [] []),(1,.ref 1001 0),(2,.ref 1002 0),(3,.ref 1003 0),(5,.p (.str t)),(6,.p (.int .i64 nx))] (oI body g i b s rec)) keepI cutY=
 some ((.tup [.p (.int .i64 (-1)),.clo (.yield l) [] [],.ref 1001 0,.ref 1002 0,.ref 1003 0,.p (.int .i64 nx),.clo (.yield l) [] [],.p (.str t),.p (.int .i64 nx)],oI body g i b s rec),[]):=by kernel_rfl
theorem not_eq (l:Nat) (s:List UInt8) (body i b nx:Int) (g:List (List UInt8)) (c:Bool) (rec:Loop):aopsK Tryz.prog GI.env 34 opsI [4] (mkS [(0,.clo (.yield l) [] []),(1,.ref 1001 0),(2,.ref 1002 0),(3,.ref 1003 0),(6,.p (.int .i64 nx)),(31,.p (.bool c))] (oI body g i b s rec)) keepI cutN=
 some ((.tup [.p (.int .i64 (-1)),.clo (.yield l) [] [],.ref 1001 0,.ref 1002 0,.ref 1003 0,.p (.int .i64 nx),.p (.bool (!c))],oI body g i b s rec),[]):=by kernel_rfl
theorem cI_eq:cI=.block 0 (.loop (.seq (at_ cI [0,0,0]) (.block 1 (.seq (at_ cI [0,0,1,0,0]) (.seq (at_ cI [0,0,1,0,1,0]) (.seq (.seq (.region 5 opsI false) (at_ cI [0,0,1,0,1,1,0,1])) (at_ cI [0,0,1,0,1,1,1]))))))):=by kernel_rfl
theorem y_op:∃ ts type pos after,opsI[3]?=some ⟨some 31,.call ⟨.value (.tmp 28),#[.tmp 29,.tmp 30],ts⟩,type,pos,after,none⟩:=⟨_,_,_,_,rfl⟩
theorem opsI_size:List.range opsI.size=[0,1,2]++[3,4]:=by kernel_rfl
theorem res_I {C:Ctx} {γ:Nat->Option G} {M:Mem} {st:S} {a:Act} {w:World} (hs:StG C γ M st a w):∃ v,(results Tryz.f118 a.tmps).run Tryz.prog w=.ok v w:=by
 obtain ⟨v,hv,_⟩:=aresultsR_sound (r:=.tup []) hs Tryz.f118 (by kernel_rfl)
 exact ⟨v,hv⟩
theorem gath_none {t:List UInt8} {i nx:Nat} {body:Int} {g:List (List UInt8)} {r:List (Nat×List UInt8×Nat)} (h:(stp t (nx:Int) body g).1=none):gathS ((i,t,nx)::r) body g=gathS r (stp t (nx:Int) body g).2.1 (stp t (nx:Int) body g).2.2:=by
 unfold stp at h ⊢
 rw [gathS]
 split at h
 .cases h
 .rename_i h0
  rw [if_neg h0,if_neg h0]
  split <;> rfl
theorem gath_some {t:List UInt8} {i nx:Nat} {body:Int} {g:List (List UInt8)} {r:List (Nat×List UInt8×Nat)} {c:Code} (h:(stp t (nx:Int) body g).1=some c):gathS ((i,t,nx)::r) body g=((stp t (nx:Int) body g).2.2,(stp t (nx:Int) body g).2.1)/\c=.exit 0:=by
 unfold stp at h ⊢
 rw [gathS]
 split at h
 .rename_i h0
  rw [if_pos h0,if_pos h0]; exact ⟨rfl,(Option.some.inj h).symm⟩
 .split at h <;> cases h
theorem stp_g {t:List UInt8} {nx body:Int} {g:List (List UInt8)} {i n:Nat} (hi:i < n) (hg:g.length<=i) (hx:∀ x ∈ g,x.length<=i) (ht:t.length<=n - i):(stp t nx body g).2.2.length<=n/\∀ x ∈ (stp t nx body g).2.2,x.length<=n:=by
 unfold stp
 split
 .exact ⟨by dsimp only; omega,fun x h=>by have:=hx x h; omega⟩
 .split
  .rename_i h
   have hgl:=List.length_pos_iff.2 h.1
   have h1:=hx _ (getD_mem (show g.length - 1 < g.length by omega) [])
   refine ⟨by simp; omega,fun x h=>?_⟩
   rcases List.mem_or_eq_of_mem_set h with h | h
   .have:=hx x h; omega
   .rw [h,List.length_append]; omega
  .refine ⟨by simp; omega,fun x h=>?_⟩
   rcases List.mem_append.1 h with h | h
   .have:=hx x h; omega
   .rw [List.mem_singleton.1 h]; omega
theorem tagOf_ret {e:Exit} (h:tagOf e=.p (.int .i64 (-2))):e=.ret:=by
 cases e with
 | ret=>rfl
 | exit i=>simp [tagOf] at h
 | _=>simp [tagOf] at h
theorem chain2 {C:Ctx} {P:Program} {st:S} {a:Act} {w:World} {o:List (Nat×AObj)} {Gc:Cfg} (hG:CfgOk Gc P C) {nt:Nat} {fx:List Nat} (hC:CtxOk C nt fx) {c1 c2:Code} {c:Cut} {t:AV} {xs:List AV} {R:Exit->Act->World->Prop}
 (hv:runC Gc agNone [] c1 st (kNext Gc c2 (kTag fx c))=some (.tup (t::xs),o)) (hs:St C st a w)
 (h:∀ e a w,tagOf e=t->St C (mkS (List.zip c.slots xs) o) a w->R e a w):c1.wpIn (FW C.rd) 0 P (Exit.then (c2.wpIn (FW C.rd) 0 P R) R) a w:=by
 have key:∀ e s' a' w',kTag fx c e s'=some (.tup (t::xs),o)->St C s' a' w'->R e a' w':=by
  intro e s' a' w' hk hs'
  obtain ⟨h1,h2⟩:=kTag_get hC hk
  exact h e a' w' h1 (h2 _ _ hs')
 refine wpIn_piece hG hv hs fun e s1 a1 w1 hk1 hs1=>?_
 cases e with
 | normal=>exact wpIn_piece hG (s:=s1) hk1 hs1 fun e s2 a2 w2 hk2 hs2=>key e s2 a2 w2 hk2 hs2
 | exit i=>exact key (.exit i) s1 a1 w1 hk1 hs1
 | ret=>exact key .ret s1 a1 w1 hk1 hs1
 | goto i=>exact key (.goto i) s1 a1 w1 hk1 hs1
 | panic i=>exact key (.panic i) s1 a1 w1 hk1 hs1
 | outgrown=>exact key .outgrown s1 a1 w1 hk1 hs1
theorem clo0_mk {γ:Nat->Option G} {M:Mem} {fn:Fn}:ARel γ M (.clo fn [] []) (.func fn #[] #[]):=.clo _ _ _ _ _ rfl rfl (fun i hi=>absurd hi (Nat.not_lt_zero _)) (fun i hi=>absurd hi (Nat.not_lt_zero _))
abbrev lI (l:Nat):List (Nat×AV):=[(0,.clo (.yield l) [] []),(1,.ref 1001 0),(2,.ref 1002 0),(3,.ref 1003 0)]
structure IInv (γ1:Nat->Option G) (M1:Mem) (W1:World) (o1:List (Nat×AObj)) (s:List UInt8) (b:Nat) (rec:Loop) (fin:List (List UInt8)×Int) (l:Nat) (i:Nat) (body:Int) (g:List (List UInt8)) (γ:Nat->Option G) (M:Mem) (a:Act) (w:World):Prop where
 hold:Hold γ M w (oI body g (i:Int) (b:Int) s rec)
 chg:Chg γ1 o1 M1 W1 γ (oI body g (i:Int) (b:Int) s rec) M w
 kept:Kept γ1 γ
 res:gathS (linesN s i b) body g=fin
 ib:i<=b
 gl:g.length<=i
 gx:∀ x ∈ g,x.length<=i
 sl:∀ t:Nat,ARel γ M (Am.look t AV.any (lI l)) (a.tmps.getD t undef)
 df:a.defers=[]
 nt:a.tmps.size=34
def IPost (γ1:Nat->Option G) (M1:Mem) (W1:World) (o1:List (Nat×AObj)) (s:List UInt8) (b:Nat) (fn:FuncId) (tm:Array Value) (D:Nat) (fin:List (List UInt8)×Int) (W2:World):Prop:=
 ∃ (γ':Nat->Option G) (M':Mem) (i:Int) (st:LoopState) (pe:Option Code),Hold γ' M' W2 (oI fin.2 fin.1 i (b:Int) s (mkRec fn tm D st pe))/\Chg γ1 o1 M1 W1 γ' (oI fin.2 fin.1 i (b:Int) s (mkRec fn tm D st pe)) M' W2/\Kept γ1 γ'/\
  ((st=.ready/\pe=none)\/(st=.done/\pe=some (.exit 0)))/\fin.1.length<=b/\∀ x ∈ fin.1,x.length<=b
theorem iter_ok {γ1:Nat->Option G} {M1:Mem} {W1:World} {s:List UInt8} {a b:Nat} {fn:FuncId} {tm:Array Value} {D l:Nat} {p q r:Value}
 (hH:Hold γ1 M1 W1 (oI (b:Int) [] (a:Int) (b:Int) s (mkRec fn tm D .ready none))) (hl:γ1 1005=some (.cell l)) (h7:ARel γ1 M1 (.ref 7 0) (tm.getD 7 undef)) (h8:ARel γ1 M1 (.ref 8 0) (tm.getD 8 undef))
 (hp:ARel γ1 M1 (.ref 1001 0) p) (hq:ARel γ1 M1 (.ref 1002 0) q) (hr:ARel γ1 M1 (.ref 1003 0) r) (hsz:tm.size=98) (hab:a<=b) (hb:b<=s.length) (hs:s.length<=1000000):
 Calls Tryz.prog 118 (#[.func (.yield l) #[] #[]]++#[p,q,r]) W1 fun e W2=>(∃ v,e=.returned v)/\IPost γ1 M1 W1 (oI (b:Int) [] (a:Int) (b:Int) s (mkRec fn tm D .ready none)) s b fn tm D (gathS (linesN s a b) (b:Int) []) W2:=by
 obtain ⟨o1,ho1⟩:∃ o1,oI (b:Int) [] (a:Int) (b:Int) s (mkRec fn tm D .ready none)=o1:=⟨_,rfl⟩
 obtain ⟨fin,hfin⟩:∃ fin,gathS (linesN s a b) (b:Int) []=fin:=⟨_,rfl⟩
 rw [hfin]
 refine callsIn_FW (r:=none) (n:=0) |>.1 (callsIn_of_wp (F:=FW none) (fn:=Tryz.f118) (c:=cI) (by kernel_rfl) (by kernel_rfl) trivial ?_ rfl)
 obtain ⟨tm0,ht0⟩:∃ x,(#[.func (.yield l) #[] #[]]++#[p,q,r])++Array.replicate (Tryz.f118.ntmps - (#[.func (.yield l) #[] #[]]++#[p,q,r]:Array Value).size) undef=x:=⟨_,rfl⟩
 have hnn:Tryz.f118.ntmps=34:=by kernel_rfl
 have z0:tm0.getD 0 undef=.func (.yield l) #[] #[]:=by rw [<-ht0]; simp [Array.getD_eq_getD_getElem?]
 have z1:tm0.getD 1 undef=p:=by rw [<-ht0]; simp [Array.getD_eq_getD_getElem?]
 have z2:tm0.getD 2 undef=q:=by rw [<-ht0]; simp [Array.getD_eq_getD_getElem?]
 have z3:tm0.getD 3 undef=r:=by rw [<-ht0]; simp [Array.getD_eq_getD_getElem?]
 have z4:tm0.size=34:=by rw [<-ht0,hnn]; simp
 rw [ht0]
 clear ht0 hnn
 rw [cI_eq]
 refine wpIn_block (wpIn_loop_f (fun n av wv=>∃ i body g γ M,IInv γ1 M1 W1 (oI (b:Int) [] (a:Int) (b:Int) s (mkRec fn tm D .ready none)) s b (mkRec fn tm D .ready none) fin l i body g γ M av wv/\n=b - i) ?_ (b - a) ⟨a,b,[],γ1,M1,⟨hH,Chg.refl,fun _ _ _ h=>h,hfin,hab,by simp,by simp,?_,rfl,?_⟩,rfl⟩)
 .rintro n' a1 w1 ⟨i,body,g,γ,M,hI,hn⟩
  have hG:CfgOk GI Tryz.prog (ctxOf w1 M γ (oI body g (i:Int) (b:Int) s (mkRec fn tm D .ready none)) keepI 34 none []):=⟨rfl,GI_env,GI_envR,ctxOf_ok,Checked.mixed Tryz.checked⟩
  have hst:St (ctxOf w1 M γ (oI body g (i:Int) (b:Int) s (mkRec fn tm D .ready none)) keepI 34 none []) (mkS (lI l) (oI body g (i:Int) (b:Int) s (mkRec fn tm D .ready none))) a1 w1:=⟨γ,M,hI.hold.lend hI.sl hI.df hI.nt⟩
  by_cases hi:i < b
  .refine chain3 hG ctxOf_ok (it_val hi hb hs) hst (fun a3 w3 _ hs3=>?_) (fun e a' w' hne ht _=>absurd (tagOf_normal ht) hne)
   obtain ⟨hL,hn1,hn2,hn3⟩:=nextL_spec hi hb
   obtain ⟨t,ht⟩:∃ t,(nextL s i b).1=t:=⟨_,rfl⟩
   obtain ⟨nx,hnx⟩:∃ nx,(nextL s i b).2=nx:=⟨_,rfl⟩
   rw [ht,hnx] at hs3 hL
   rw [hnx] at hn1 hn2
   rw [ht,hnx] at hn3
   obtain ⟨γ3,M3,hs3⟩:=hs3
   obtain ⟨hH3,hC3,hK3,hsl3,hdf3,hnt3⟩:=Hold.back hs3
   refine wpIn_seq (wpIn_seq (wpIn_region ?_))
   rw [opsI_size]
   refine aopsK_get (C:=ctxOf w3 M3 γ3 (oI body g (i:Int) (b:Int) s (mkRec fn tm D .ready none)) keepI 34 none []) (nt:=34) ctxOf_ok GI_env (mv_eq l s t body i b nx g _) trivial ⟨γ3,M3,hH3.lend hsl3 hdf3 hnt3⟩ (fun a4 w4 hs4=>?_)
   obtain ⟨γ4,M4,hs4⟩:=hs4
   obtain ⟨hH4,hC4,hK4,hsl4,hdf4,hnt4⟩:=Hold.back hs4
   have hKK4:Kept γ1 γ4:=(hI.kept.trans hK3).trans hK4
   have hCC4:=(hI.chg.trans hC3).trans hC4
   have hl4:=hKK4 1005 (by decide) _ hl
   obtain ⟨ts,ty,pos,aft,ho⟩:=y_op
   have e0:=ARel.clo0 (fn:=.yield l) (hsl4 0)
   have e28:=ARel.clo0 (fn:=.yield l) (hsl4 28)
   have r1:ARel γ4 M4 (.ref 1001 0) (a4.tmps.getD 1 undef):=hsl4 1
   have r2:ARel γ4 M4 (.ref 1002 0) (a4.tmps.getD 2 undef):=hsl4 2
   have r3:ARel γ4 M4 (.ref 1003 0) (a4.tmps.getD 3 undef):=hsl4 3
   have r6:ARel γ4 M4 (.p (.int .i64 (nx:Int))) (a4.tmps.getD 6 undef):=hsl4 6
   have r29:ARel γ4 M4 (.p (.str t)) (a4.tmps.getD 29 undef):=hsl4 29
   have r30:ARel γ4 M4 (.p (.int .i64 (nx:Int))) (a4.tmps.getD 30 undef):=hsl4 30
   refine ops_cons ho rfl (wpIn_yield (l:=l) (r:=mkRec fn tm D .ready none) e28 (hH4.raw_at lookO_hd hl4).1 rfl ?_)
   have hfold:(((mkRec fn tm D .ready none).params.zip ((#[.tmp 29,.tmp 30]:Array Operand).map a4.eval)).foldl (fun tmps (t,a)=>tmps.setIfInBounds t a) (mkRec fn tm D .ready none).tmps)=(tm.setIfInBounds 35 (a4.tmps.getD 29 undef)).setIfInBounds 36 (a4.tmps.getD 30 undef):=by
    simp [mkRec,Act.eval]
   rw [hfold]
   refine RoundIn.mono (round_ok (fn:=fn) (D:=D) (tm:=tm) hH4 hl4 (h7.ref_kept fun g hg=>hKK4 7 (by decide) g hg) (h8.ref_kept fun g hg=>hKK4 8 (by decide) g hg) r29 r30 hsz (by have:=hI.gl; omega) (fun x hx=>by have:=hI.gx x hx; omega) (by omega)) ?_
   rintro e W' ⟨jump,γ5,M5,he,hj,hH5,hC5,hK5⟩
   refine ⟨_,he,?_⟩
   obtain ⟨hg5,hx5⟩:=stp_g (nx:=(nx:Int)) (body:=body) (t:=t) hn1 hI.gl hI.gx hn3
   obtain ⟨body5,hb5⟩:∃ x,(stp t (nx:Int) body g).2.1=x:=⟨_,rfl⟩
   obtain ⟨g5,hg5'⟩:∃ x,(stp t (nx:Int) body g).2.2=x:=⟨_,rfl⟩
   have hres:=hI.res
   rw [hL] at hres
   rw [hg5'] at hg5 hx5
   rw [hb5,hg5'] at hH5 hC5
   have hput:∀ k,k≠31->(a4.put (some 31) (.bool jump.isNone)).tmps.getD k undef=a4.tmps.getD k undef:=by
    intro k hk
    show (a4.tmps.setIfInBounds 31 _).getD k undef=_
    rw [gset (by omega),if_neg (fun h=>hk h.symm)]
   have hsl5:∀ t':Nat,ARel γ5 M5 (Am.look t' AV.any [(0,.clo (.yield l) [] []),(1,.ref 1001 0),(2,.ref 1002 0),(3,.ref 1003 0),(6,.p (.int .i64 (nx:Int))),(31,.p (.bool jump.isNone))]) ((a4.put (some 31) (.bool jump.isNone)).tmps.getD t' undef):=by
    refine sl_cons ?_ (sl_cons ?_ (sl_cons ?_ (sl_cons ?_ (sl_cons ?_ (sl_cons ?_ sl_nil)))))
    .rw [hput 0 (by decide),e0]; exact clo0_mk
    .rw [hput 1 (by decide)]; exact r1.ref_kept fun g hg=>hK5 1001 (by decide) g hg
    .rw [hput 2 (by decide)]; exact r2.ref_kept fun g hg=>hK5 1002 (by decide) g hg
    .rw [hput 3 (by decide)]; exact r3.ref_kept fun g hg=>hK5 1003 (by decide) g hg
    .rw [hput 6 (by decide)]; exact r6.p_any hC5.le
    .show ARel γ5 M5 _ ((a4.tmps.setIfInBounds 31 _).getD 31 undef)
     rw [gset (by omega),if_pos rfl]; exact .p _ _ (.bool _)
   obtain ⟨rec5,hrec5⟩:∃ x,mkRec fn tm D (if jump.isNone then .ready else .done) jump=x:=⟨_,rfl⟩
   rw [hrec5] at hH5 hC5
   refine aopsK_get (C:=ctxOf W' M5 γ5 (oI body5 g5 (i:Int) (b:Int) s rec5) keepI 34 none []) (nt:=34) (l:=[4]) (l2:=[]) ctxOf_ok GI_env (not_eq l s body5 i b nx g5 jump.isNone rec5) trivial ⟨γ5,M5,hH5.lend hsl5 hdf4 (by show (a4.tmps.setIfInBounds 31 _).size=34; simp; exact hnt4)⟩ (fun a6 w6 hs6=>?_)
   obtain ⟨γ6,M6,hs6⟩:=hs6
   obtain ⟨hH6,hC6,hK6,hsl6,hdf6,hnt6⟩:=Hold.back hs6
   have hG6:CfgOk GI Tryz.prog (ctxOf w6 M6 γ6 (oI body5 g5 (i:Int) (b:Int) s rec5) keepI 34 none []):=⟨rfl,GI_env,GI_envR,ctxOf_ok,Checked.mixed Tryz.checked⟩
   have hst6:St (ctxOf w6 M6 γ6 (oI body5 g5 (i:Int) (b:Int) s rec5) keepI 34 none []) (mkS [(0,.clo (.yield l) [] []),(1,.ref 1001 0),(2,.ref 1002 0),(3,.ref 1003 0),(6,.p (.int .i64 (nx:Int))),(32,.p (.bool (!jump.isNone)))] (oI body5 g5 (i:Int) (b:Int) s rec5)) a6 w6:=⟨γ6,M6,hH6.lend hsl6 hdf6 hnt6⟩
   have hv:=it2_eq l s body5 i b g5 nx (!jump.isNone) rec5
   cases jump with
   | none=>
    subst hrec5
    refine chain2 hG6 ctxOf_ok hv hst6 fun e a8 w8 ht8 hs8=>?_
    have:=tagOf_normal ht8
    subst this
    obtain ⟨γ8,M8,hs8⟩:=hs8
    obtain ⟨hH8,hC8,hK8,hsl8,hdf8,hnt8⟩:=Hold.back hs8
    refine ⟨b - nx,by omega,nx,body5,g5,γ8,M8,⟨hH8,((hCC4.trans hC5).trans hC6).trans hC8,((hKK4.trans hK5).trans hK6).trans hK8,?_,hn2,hg5,hx5,hsl8,hdf8,hnt8⟩,rfl⟩
    rw [gath_none hj,hb5,hg5'] at hres; exact hres
   | some c=>
    obtain ⟨hgs,hce⟩:=gath_some (i:=i) (r:=linesN s nx b) hj
    rw [hgs,hb5,hg5'] at hres
    refine chain2 hG6 ctxOf_ok hv hst6 fun e a8 w8 ht8 hs8=>?_
    have:=tagOf_ret ht8
    subst this
    obtain ⟨γ8,M8,hs8⟩:=hs8
    obtain ⟨hH8,hC8,hK8,hsl8,hdf8,hnt8⟩:=Hold.back hs8
    obtain ⟨v,hv'⟩:=res_I hs8
    subst hrec5
    subst hres
    exact ⟨hdf8,v,hv',⟨v,rfl⟩,γ8,M8,(i:Int),.done,some c,hH8,((hCC4.trans hC5).trans hC6).trans hC8,((hKK4.trans hK5).trans hK6).trans hK8,.inr ⟨rfl,by rw [hce]⟩,Nat.le_trans hg5 hn2,fun x hx=>Nat.le_trans (hx5 x hx) hn2⟩
  .refine chain3 hG ctxOf_ok (it_end hi) hst (fun a3 w3 h _=>by cases h) (fun e a' w' hne ht hs'=>?_)
   have:=tagOf_exit (i:=0) ht
   subst this
   obtain ⟨γ8,M8,hs8⟩:=hs'
   obtain ⟨hH8,hC8,hK8,hsl8,hdf8,hnt8⟩:=Hold.back hs8
   obtain ⟨v,hv'⟩:=res_I hs8
   have hres:=hI.res
   rw [linesN_nil (by omega)] at hres
   have hfin2:fin=(g,body):=hres.symm
   subst hfin2
   have key:bodyPost Tryz.prog Tryz.f118 (fun e W2=>(∃ v,e=.returned v)/\IPost γ1 M1 W1 (oI (b:Int) [] (a:Int) (b:Int) s (mkRec fn tm D .ready none)) s b fn tm D (g,body) W2) .normal a' w':=
    ⟨hdf8,v,hv',⟨v,rfl⟩,γ8,M8,(i:Int),.ready,none,hH8,hI.chg.trans hC8,hI.kept.trans hK8,.inl ⟨rfl,rfl⟩,Nat.le_trans hI.gl hI.ib,fun x hx=>Nat.le_trans (hI.gx x hx) hI.ib⟩
   exact ⟨key,key⟩
 .exact sl_cons (by rw [z0]; exact clo0_mk) (sl_cons (by rw [z1]; exact hp) (sl_cons (by rw [z2]; exact hq) (sl_cons (by rw [z3]; exact hr) sl_nil)))
 .exact z4
end Go.Proofs.YtoanepondbagcaaGreatDoor
namespace Go.Proofs.YtoanepondbagcaaGreatDoor
open Go Go.Am
set_option linter.unusedVariables false
theorem dropG {α:Type} {l:List α} {i:Nat} {c:α} {r:List α} (h:l.drop i=c::r) (d:α):l.getD i d=c/\l.drop (i+1)=r/\i < l.length:=by
 have hi:i < l.length:=by
  refine Nat.lt_of_not_le fun q=>?_
  rw [List.drop_of_length_le q] at h; cases h
 rw [List.drop_eq_getElem_cons hi] at h
 injection h with h1 h2
 refine ⟨?_,h2,hi⟩
 rw [List.getD_eq_getElem?_getD,List.getElem?_eq_getElem hi]; exact h1
end Go.Proofs.YtoanepondbagcaaGreatDoor
