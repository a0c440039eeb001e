/-
  Lifted functions, and facts about them.
-/
import Derived.Test.YtoanepondbagcaaGreatDoorRows
import Derived.Test.YtoanepondbagcaaGreatDoorAmC
import Derived.Test.YtoanepondbagcaaGreatDoorC01
import Derived.Test.YtoanepondbagcaaGreatDoorC19
import Derived.Test.YtoanepondbagcaaGreatDoorC08
import Derived.Shelf.Strconv.Itoa3
import Derived.Test.YtoanepondbagcaaGreatDoorC18
import Derived.Test.YtoanepondbagcaaGreatDoorC06
import Derived.Test.YtoanepondbagcaaGreatDoorC14
namespace Go.Proofs.YtoanepondbagcaaGreatDoor
open Go Go.Am
set_option linter.unusedVariables false
def isAt (c:UInt8):Bool:=!([34,40,60,58,44,59,32,9,13,10]:List UInt8).contains c
def adF:Nat->List UInt8->List (List UInt8)->List UInt8->Bool->List AddrT->List AddrT
 | 0,_,ws,an,hs,out=>tellS ws an hs out
 | _+1,[],ws,an,hs,out=>tellS ws an hs out
 | f+1,c::r,ws,an,hs,out=>
  if c=34 then adF f (r.drop (wiF r).2) (ws++[(wiF r).1]) an hs out
  else if c=40 then adF f (r.drop (rmF 1 r)) ws an hs out
  else if c=60 then adF f (r.drop ((cutS r 62).1.length+1)) ws (unbS (cutS r 62).1) true out
  else if c=58 then adF f r [] [] false out
  else if c=44\/c=59 then adF f r [] [] false (tellS ws an hs out)
  else if c=32\/c=9\/c=13\/c=10 then adF f r ws an hs out
  else adF f (r.dropWhile isAt) (ws++[c::r.takeWhile isAt]) an hs out
def listA (s:List UInt8):List AddrT:=adF (s.length+1) s [] [] false []
theorem wiF_le:∀ (n:Nat) (r:List UInt8),r.length<=n->(wiF r).1.length<=(wiF r).2/\(wiF r).2<=r.length
 | _,[],_=>by simp [wiF]
 | _,[c],_=>by rw [wiF]; split <;> simp
 | 0,c::d::r,h=>by simp at h
 | n+1,c::d::r,h=>by
  have h1:=wiF_le n r (by simp at h; omega)
  have h2:=wiF_le n (d::r) (by simp at h ⊢; omega)
  rw [wiF]
  split
  .simp
  .split
   .simp only [List.length_cons]; omega
   .simp only [List.length_cons] at h2 ⊢; omega
theorem rmF_le:∀ (n k:Nat) (r:List UInt8),r.length<=n->rmF k r<=r.length
 | _,0,_,_=>by simp [rmF]
 | _,_+1,[],_=>by simp [rmF]
 | _,_+1,[_],_=>by simp [rmF]
 | 0,_+1,c::d::r,h=>by simp at h
 | n+1,k+1,c::d::r,h=>by
  have h1:=rmF_le n (k+2) (d::r) (by simp at h ⊢; omega)
  have h2:=rmF_le n k (d::r) (by simp at h ⊢; omega)
  have h3:=rmF_le n (k+1) r (by simp at h; omega)
  have h4:=rmF_le n (k+1) (d::r) (by simp at h ⊢; omega)
  rw [rmF]
  simp only [List.length_cons] at h1 h2 h4 ⊢
  split
  .omega
  .split
   .omega
   .split <;> omega
theorem takeW_le (p:UInt8->Bool) (r:List UInt8):(r.takeWhile p).length+(r.dropWhile p).length=r.length:=by
 rw [<-List.length_append,List.takeWhile_append_dropWhile]
theorem adF_fuel:∀ (f g:Nat) (r:List UInt8) (ws:List (List UInt8)) (an:List UInt8) (hs:Bool) (out:List AddrT),r.length < f->r.length < g->adF f r ws an hs out=adF g r ws an hs out
 | 0,_,r,_,_,_,_,h,_=>by omega
 | _,0,r,_,_,_,_,_,h=>by omega
 | f+1,g+1,[],ws,an,hs,out,_,_=>rfl
 | f+1,g+1,c::r,ws,an,hs,out,hf,hg=>by
  rw [List.length_cons] at hf hg
  have hw:=takeW_le isAt r
  have ih:∀ (q:List UInt8) ws an hs out,q.length<=r.length->adF f q ws an hs out=adF g q ws an hs out:=fun q ws an hs out hq=>adF_fuel f g q ws an hs out (by omega) (by omega)
  rw [adF,adF]
  rw [ih _ _ _ _ _ (by simp),ih _ _ _ _ _ (by simp),ih _ _ _ _ _ (by simp),ih r [] [] false out (Nat.le_refl _),ih r [] [] false (tellS ws an hs out) (Nat.le_refl _),ih r ws an hs out (Nat.le_refl _),ih _ (ws++[c::r.takeWhile isAt]) _ _ _ (by omega)]
theorem joinS_one (ws:List (List UInt8)) (n:Nat) (h:totL ws+ws.length<=n):(joinS [32] ws).length<=n/\(joinS [] ws).length<=n:=by
 have h1:=joinS_len [32] ws
 have h2:=joinS_len [] ws
 simp at h1 h2
 omega
theorem totL_app (ws:List (List UInt8)) (x:List UInt8):totL (ws++[x])=totL ws+x.length:=by simp [totL]
noncomputable def calist:Code:=bodyOf Tryz.f49
noncomputable def Galist:Cfg:=⟨Tryz.prog,mkEnv [(53,sp_cut),(87,sp_ixb)],mkEnvR [(81,sp_within_),(82,sp_remark),(83,sp_newrep),(84,sp_repl),(85,sp_drop),(86,sp_tell)],153,[],[([0,0,1,1],⟨[0,3],[⟨.slot 3,3,.cells []⟩,⟨.cell 3 2,4002,(.larr 9 false 1 (.dat .str ([]:List (List UInt8))))⟩,⟨.cell 3 5,4005,(.larr 70 false 3 (.dat (.pair .str (.pair .str .str)) ([]:List (List UInt8×List UInt8×List UInt8))))⟩]⟩),([1,1,1,1,1,1,1,0,0,0,0,0,0,0,0,0,0,0,0,0,0,0,0,0,1,1,1,0,1,0,0,0,1,1],⟨[0,3,45],[⟨.slot 3,3,.cells []⟩,⟨.cell 3 2,4002,(.larr 9 false 1 (.dat .str ([]:List (List UInt8))))⟩,⟨.cell 3 5,4005,(.larr 70 false 3 (.dat (.pair .str (.pair .str .str)) ([]:List (List UInt8×List UInt8×List UInt8))))⟩]⟩),([1,1,0,1,0,0,0,0,0,0,0,0,0,0,1,1,1,0,1,0,0,0,1,1],⟨[0,3,5],[⟨.slot 3,3,.cells []⟩,⟨.cell 3 2,4002,(.larr 9 false 1 (.dat .str ([]:List (List UInt8))))⟩,⟨.cell 3 5,4005,(.larr 70 false 3 (.dat (.pair .str (.pair .str .str)) ([]:List (List UInt8×List UInt8×List UInt8))))⟩]⟩),([1,0,0,0,0,0,1,1,1,0,1,0,0,0,1,1],⟨[0,3],[⟨.slot 3,3,.cells []⟩,⟨.cell 3 2,4002,(.larr 9 false 1 (.dat .str ([]:List (List UInt8))))⟩,⟨.cell 3 5,4005,(.larr 70 false 3 (.dat (.pair .str (.pair .str .str)) ([]:List (List UInt8×List UInt8×List UInt8))))⟩]⟩),([0,0,1,0,1,0,1,1,1,0,1,0,0,0,1,1],⟨[0,3,8],[⟨.slot 3,3,.cells []⟩,⟨.cell 3 2,4002,(.larr 9 false 1 (.dat .str ([]:List (List UInt8))))⟩,⟨.cell 3 5,4005,(.larr 70 false 3 (.dat (.pair .str (.pair .str .str)) ([]:List (List UInt8×List UInt8×List UInt8))))⟩]⟩),([1,0,0,0,0,1,0,1,0,1,1,1,0,1,0,0,0,1,1],⟨[0,3,8,123],[⟨.slot 3,3,.cells []⟩,⟨.cell 3 2,4002,(.larr 9 false 1 (.dat .str ([]:List (List UInt8))))⟩,⟨.cell 3 5,4005,(.larr 70 false 3 (.dat (.pair .str (.pair .str .str)) ([]:List (List UInt8×List UInt8×List UInt8))))⟩]⟩)],[([0,1,0,0,0,0,0,0,0,0,0,0,0,0,0,0,1,1,1,0,1,0,0,0,1,1],[6]),([0,1,0,0,0,0,0,0,0,0,0,0,0,0,1,1,1,0,1,0,0,0,1,1],[1]),([1,1,0,1,0,0,0,0,0,0,0,0,0,0,1,1,1,0,1,0,0,0,1,1],[3,5]),([0,1,0,0,0,0,0,0,0,0,1,1,1,0,1,0,0,0,1,1],[1]),([0,1,0,0,0,0,0,1,1,1,0,1,0,0,0,1,1],[1]),([0,1,1,1],[1]),([999999,0,1,0,0,0,0,0,0,0,0,0,0,0,0,0,0,1,1,1,0,1,0,0,0,1,1],[4,6,0,1,2,3,5,6,4,7,8,9,10,11])]⟩
noncomputable def Balist_1 (F f1:Nat) (s vs1:List UInt8) (vi2:Int) (vs3:List UInt8) (vc4:Bool) (vl5:List (List UInt8)) (vl6:List (List UInt8×List UInt8×List UInt8)):Option Ans:=runR Galist calist (kP Tryz.prog Tryz.f49.results.toList) F [] [1,1,0,0] f1 [(0,.p (.str s)),(3,.ref 3 0)] [(3,.cells [.p (.str vs1),.p (.int .i64 vi2),.arr 4002,.p (.str vs3),.p (.bool vc4),.arr 4005]),(4002,.larr 9 false 1 (.dat .str vl5)),(4005,.larr 70 false 3 (.dat (.pair .str (.pair .str .str)) vl6))]
noncomputable def Balist_2 (F f1:Nat) (s vs7 vs1:List UInt8) (vi8:Int) (vs3:List UInt8) (vc4:Bool) (vl5:List (List UInt8)) (vl6:List (List UInt8×List UInt8×List UInt8)):Option Ans:=runB Galist calist (kP Tryz.prog Tryz.f49.results.toList) F [f1] [1,1,0,0,0,1,0,1,1,1,0,0,0,0,0,0,0,0,0,0,1,0,1,1] [(0,.p (.str s)),(3,.ref 3 0),(5,.p (.str vs7))] [(3,.cells [.p (.str vs1),.p (.int .i64 vi8),.arr 4002,.p (.str vs3),.p (.bool vc4),.arr 4005]),(4002,.larr 9 false 1 (.dat .str vl5)),(4005,.larr 70 false 3 (.dat (.pair .str (.pair .str .str)) vl6))]
noncomputable def Balist_3 (F f1:Nat) (s vs9:List UInt8) (vi10:Int) (vs11:List UInt8) (vc12:Bool) (vl13:List (List UInt8)) (vl14:List (List UInt8×List UInt8×List UInt8)):Option Ans:=runB Galist calist (kP Tryz.prog Tryz.f49.results.toList) F [f1] [1,1,0,0,0,1,0,1,1,1,0,0,0,0,0,1] [(0,.p (.str s)),(3,.ref 3 0)] [(3,.cells [.p (.str vs9),.p (.int .i64 vi10),.arr 4002,.p (.str vs11),.p (.bool vc12),.arr 4005]),(4002,.larr 9 false 1 (.dat .str vl13)),(4005,.larr 70 false 3 (.dat (.pair .str (.pair .str .str)) vl14))]
noncomputable def Balist_4 (F f1:Nat) (s:List UInt8) (vc15:Bool) (vs1:List UInt8) (vi16:Int) (vs3:List UInt8) (vc4:Bool) (vl5:List (List UInt8)) (vl6:List (List UInt8×List UInt8×List UInt8)):Option Ans:=runB Galist calist (kP Tryz.prog Tryz.f49.results.toList) F [f1] [1,1,0,0,0,1,0,1,1,1,0,0,0,0,0,0,0,0,0,0,0,0,0,0,0,0,0,1,1,1,1,1,1,1] [(0,.p (.str s)),(3,.ref 3 0),(45,.p (.bool vc15))] [(3,.cells [.p (.str vs1),.p (.int .i64 vi16),.arr 4002,.p (.str vs3),.p (.bool vc4),.arr 4005]),(4002,.larr 9 false 1 (.dat .str vl5)),(4005,.larr 70 false 3 (.dat (.pair .str (.pair .str .str)) vl6))]
noncomputable def Balist_5 (F f1 f2:Nat) (s:List UInt8) (vi17:Int) (vs18:List UInt8) (vi19:Int) (vs20:List UInt8) (vc21:Bool) (vl22:List (List UInt8)) (vl23:List (List UInt8×List UInt8×List UInt8)):Option Ans:=runR Galist calist (kP Tryz.prog Tryz.f49.results.toList) F [f1] [1,1,0,0,0,1,0,1,1,1,0,1,0,1,0,0] f2 [(0,.p (.str s)),(3,.ref 3 0),(8,.p (.int .i64 vi17))] [(3,.cells [.p (.str vs18),.p (.int .i64 vi19),.arr 4002,.p (.str vs20),.p (.bool vc21),.arr 4005]),(4002,.larr 9 false 1 (.dat .str vl22)),(4005,.larr 70 false 3 (.dat (.pair .str (.pair .str .str)) vl23))]
noncomputable def Balist_6 (F f1 f2:Nat) (s:List UInt8) (vi17:Int) (vc24:Bool) (vs18:List UInt8) (vi19:Int) (vs20:List UInt8) (vc21:Bool) (vl22:List (List UInt8)) (vl23:List (List UInt8×List UInt8×List UInt8)):Option Ans:=runB Galist calist (kP Tryz.prog Tryz.f49.results.toList) F [f1,f2] [1,1,0,0,0,1,0,1,1,1,0,1,0,1,0,0,0,0,1] [(0,.p (.str s)),(3,.ref 3 0),(8,.p (.int .i64 vi17)),(123,.p (.bool vc24))] [(3,.cells [.p (.str vs18),.p (.int .i64 vi19),.arr 4002,.p (.str vs20),.p (.bool vc21),.arr 4005]),(4002,.larr 9 false 1 (.dat .str vl22)),(4005,.larr 70 false 3 (.dat (.pair .str (.pair .str .str)) vl23))]
noncomputable def Falist (F:Nat) (s:List UInt8):Option Ans:=runF Galist Tryz.f49 F [.p (.str s)]
theorem Balist_1_eq (F f1:Nat) (s vs1:List UInt8) (vi2:Int) (vs3:List UInt8) (vc4:Bool) (vl5:List (List UInt8)) (vl6:List (List UInt8×List UInt8×List UInt8)):Balist_1 F (f1+1) s vs1 vi2 vs3 vc4 vl5 vl6=cond (decide (vi2 < (s.length:Int))) (need (0<=vi2/\vi2 < (s.length:Int)) (need (i64ok (vi2+(1:Int))) (cond (((s.getD (vi2).toNat 0).toNat:Int)==(34:Int)) (need (rdok vs1 (vi2+(1:Int))) (need ((vl5.length+[(wiF (vs1.drop (vi2+(1:Int)).toNat)).1].length) * 16<=140737488355328) (need (rdok vs1 (vi2+(1:Int))) (need ((vl5.length+[(wiF (vs1.drop (vi2+(1:Int)).toNat)).1].length) * 16<=140737488355328) ((Balist_1 F f1 s vs1 ((vi2+(1:Int))+((wiF (vs1.drop (vi2+(1:Int)).toNat)).2:Int)) vs3 vc4 (vl5++[(wiF (vs1.drop (vi2+(1:Int)).toNat)).1]) vl6)))))) (cond (((s.getD (vi2).toNat 0).toNat:Int)==(40:Int)) (need (rdok vs1 (vi2+(1:Int))) (Balist_1 F f1 s vs1 ((vi2+(1:Int))+(rmF 1 (vs1.drop (vi2+(1:Int)).toNat):Int)) vs3 vc4 vl5 vl6)) (cond (((s.getD (vi2).toNat 0).toNat:Int)==(60:Int)) (need (0<=(vi2+(1:Int))/\(vi2+(1:Int))<=(s.length:Int)) (need ((s.drop (vi2+(1:Int)).toNat).length<=1000000) (need (i64ok ((vi2+(1:Int))+(((cutS (s.drop (vi2+(1:Int)).toNat) 62).1).length:Int))) (need (i64ok (((vi2+(1:Int))+(((cutS (s.drop (vi2+(1:Int)).toNat) 62).1).length:Int))+(1:Int))) (Balist_2 F f1 s ((cutS (s.drop (vi2+(1:Int)).toNat) 62).1) vs1 (if (s.length:Int) < (((vi2+(1:Int))+(((cutS (s.drop (vi2+(1:Int)).toNat) 62).1).length:Int))+(1:Int)) then (s.length:Int) else (((vi2+(1:Int))+(((cutS (s.drop (vi2+(1:Int)).toNat) 62).1).length:Int))+(1:Int))) vs3 vc4 vl5 vl6))))) (cond (((s.getD (vi2).toNat 0).toNat:Int)==(58:Int)) (Balist_1 F f1 s vs1 (vi2+(1:Int)) ([]:List UInt8) false ([]:List (List UInt8)) vl6) (cond (((s.getD (vi2).toNat 0).toNat:Int)==(44:Int)) (Balist_3 F f1 s vs1 (vi2+(1:Int)) vs3 vc4 vl5 vl6) (cond (((s.getD (vi2).toNat 0).toNat:Int)==(59:Int)) (Balist_3 F f1 s vs1 (vi2+(1:Int)) vs3 vc4 vl5 vl6) (cond (((s.getD (vi2).toNat 0).toNat:Int)==(32:Int)) (Balist_4 F f1 s (((s.getD (vi2).toNat 0).toNat:Int)==(32:Int)) vs1 (vi2+(1:Int)) vs3 vc4 vl5 vl6) (cond (((s.getD (vi2).toNat 0).toNat:Int)==(9:Int)) (Balist_4 F f1 s (((s.getD (vi2).toNat 0).toNat:Int)==(9:Int)) vs1 (vi2+(1:Int)) vs3 vc4 vl5 vl6) (cond (((s.getD (vi2).toNat 0).toNat:Int)==(13:Int)) (Balist_4 F f1 s (((s.getD (vi2).toNat 0).toNat:Int)==(13:Int)) vs1 (vi2+(1:Int)) vs3 vc4 vl5 vl6) (Balist_4 F f1 s (((s.getD (vi2).toNat 0).toNat:Int)==(10:Int)) vs1 (vi2+(1:Int)) vs3 vc4 vl5 vl6)))))))))))) (need (tellok vl5 vs3 vl6) (some (.p (.list 3 (.dat (.pair .str (.pair .str .str)) (tellS vl5 vs3 vc4 vl6))),[]))):=by
 have h:Balist_1 F (f1+1) s vs1 vi2 vs3 vc4 vl5 vl6=cond (decide (vi2 < (s.length:Int))) (need (0<=vi2/\vi2 < (s.length:Int)) (need (i64ok (vi2+(1:Int))) (cond (((s.getD (vi2).toNat 0).toNat:Int)==(34:Int)) (need (rdok vs1 (vi2+(1:Int))) (need ((vl5.length+[(wiF (vs1.drop (vi2+(1:Int)).toNat)).1].length) * 16<=140737488355328) (need (rdok vs1 (vi2+(1:Int))) (need ((vl5.length+[(wiF (vs1.drop (vi2+(1:Int)).toNat)).1].length) * 16<=140737488355328) (agree (Balist_1 F f1 s vs1 ((vi2+(1:Int))+((wiF (vs1.drop (vi2+(1:Int)).toNat)).2:Int)) vs3 vc4 (vl5++[(wiF (vs1.drop (vi2+(1:Int)).toNat)).1]) vl6) (Balist_1 F f1 s vs1 ((vi2+(1:Int))+((wiF (vs1.drop (vi2+(1:Int)).toNat)).2:Int)) vs3 vc4 (vl5++[(wiF (vs1.drop (vi2+(1:Int)).toNat)).1]) vl6)))))) (cond (((s.getD (vi2).toNat 0).toNat:Int)==(40:Int)) (need (rdok vs1 (vi2+(1:Int))) (Balist_1 F f1 s vs1 ((vi2+(1:Int))+(rmF 1 (vs1.drop (vi2+(1:Int)).toNat):Int)) vs3 vc4 vl5 vl6)) (cond (((s.getD (vi2).toNat 0).toNat:Int)==(60:Int)) (need (0<=(vi2+(1:Int))/\(vi2+(1:Int))<=(s.length:Int)) (need ((s.drop (vi2+(1:Int)).toNat).length<=1000000) (need (i64ok ((vi2+(1:Int))+(((cutS (s.drop (vi2+(1:Int)).toNat) 62).1).length:Int))) (need (i64ok (((vi2+(1:Int))+(((cutS (s.drop (vi2+(1:Int)).toNat) 62).1).length:Int))+(1:Int))) (Balist_2 F f1 s ((cutS (s.drop (vi2+(1:Int)).toNat) 62).1) vs1 (if (s.length:Int) < (((vi2+(1:Int))+(((cutS (s.drop (vi2+(1:Int)).toNat) 62).1).length:Int))+(1:Int)) then (s.length:Int) else (((vi2+(1:Int))+(((cutS (s.drop (vi2+(1:Int)).toNat) 62).1).length:Int))+(1:Int))) vs3 vc4 vl5 vl6))))) (cond (((s.getD (vi2).toNat 0).toNat:Int)==(58:Int)) (Balist_1 F f1 s vs1 (vi2+(1:Int)) ([]:List UInt8) false ([]:List (List UInt8)) vl6) (cond (((s.getD (vi2).toNat 0).toNat:Int)==(44:Int)) (Balist_3 F f1 s vs1 (vi2+(1:Int)) vs3 vc4 vl5 vl6) (cond (((s.getD (vi2).toNat 0).toNat:Int)==(59:Int)) (Balist_3 F f1 s vs1 (vi2+(1:Int)) vs3 vc4 vl5 vl6) (cond (((s.getD (vi2).toNat 0).toNat:Int)==(32:Int)) (Balist_4 F f1 s (((s.getD (vi2).toNat 0).toNat:Int)==(32:Int)) vs1 (vi2+(1:Int)) vs3 vc4 vl5 vl6) (cond (((s.getD (vi2).toNat 0).toNat:Int)==(9:Int)) (Balist_4 F f1 s (((s.getD (vi2).toNat 0).toNat:Int)==(9:Int)) vs1 (vi2+(1:Int)) vs3 vc4 vl5 vl6) (cond (((s.getD (vi2).toNat 0).toNat:Int)==(13:Int)) (Balist_4 F f1 s (((s.getD (vi2).toNat 0).toNat:Int)==(13:Int)) vs1 (vi2+(1:Int)) vs3 vc4 vl5 vl6) (Balist_4 F f1 s (((s.getD (vi2).toNat 0).toNat:Int)==(10:Int)) vs1 (vi2+(1:Int)) vs3 vc4 vl5 vl6)))))))))))) (need (tellok vl5 vs3 vl6) (some (.p (.list 3 (.dat (.pair .str (.pair .str .str)) (tellS vl5 vs3 vc4 vl6))),[]))):=by kernel_rfl
 rw [h]; simp only [agree_self]
theorem Balist_2_eq (F f1:Nat) (s vs7 vs1:List UInt8) (vi8:Int) (vs3:List UInt8) (vc4:Bool) (vl5:List (List UInt8)) (vl6:List (List UInt8×List UInt8×List UInt8)):Balist_2 F f1 s vs7 vs1 vi8 vs3 vc4 vl5 vl6=need (vs7.length<=1000000) (Balist_1 F f1 s vs1 vi8 (unbS vs7) true vl5 vl6):=by kernel_rfl
theorem Balist_3_eq (F f1:Nat) (s vs9:List UInt8) (vi10:Int) (vs11:List UInt8) (vc12:Bool) (vl13:List (List UInt8)) (vl14:List (List UInt8×List UInt8×List UInt8)):Balist_3 F f1 s vs9 vi10 vs11 vc12 vl13 vl14=need (tellok vl13 vs11 vl14) (Balist_1 F f1 s vs9 vi10 ([]:List UInt8) false ([]:List (List UInt8)) (tellS vl13 vs11 vc12 vl14)):=by kernel_rfl
theorem Balist_4_eq (F f1:Nat) (s:List UInt8) (vc15:Bool) (vs1:List UInt8) (vi16:Int) (vs3:List UInt8) (vc4:Bool) (vl5:List (List UInt8)) (vl6:List (List UInt8×List UInt8×List UInt8)):Balist_4 F f1 s vc15 vs1 vi16 vs3 vc4 vl5 vl6=cond (vc15) (Balist_1 F f1 s vs1 vi16 vs3 vc4 vl5 vl6) (need (i64ok (vi16 - (1:Int))) (Balist_5 F f1 f1 s (vi16 - (1:Int)) vs1 vi16 vs3 vc4 vl5 vl6)):=by kernel_rfl
theorem Balist_5_eq (F f1 f2:Nat) (s:List UInt8) (vi17:Int) (vs18:List UInt8) (vi19:Int) (vs20:List UInt8) (vc21:Bool) (vl22:List (List UInt8)) (vl23:List (List UInt8×List UInt8×List UInt8)):Balist_5 F f1 (f2+1) s vi17 vs18 vi19 vs20 vc21 vl22 vl23=need ((decide (vi19 < (s.length:Int)))=true->0<=vi19/\vi19 < (s.length:Int)) (Balist_6 F f1 f2 s vi17 ((decide (vi19 < (s.length:Int)))&&(decide ((ixS ([34,40,60,58,44,59,32,9,13,10]:List UInt8) ((s.getD (vi19).toNat 0).toNat:Int)) < (0:Int)))) vs18 vi19 vs20 vc21 vl22 vl23):=
 Eq.trans (show Balist_5 F f1 (f2+1) s vi17 vs18 vi19 vs20 vc21 vl22 vl23=need ((decide (vi19 < (s.length:Int)))=true->(decide (vi19 < (s.length:Int)))=true) (need ((decide (vi19 < (s.length:Int)))=true->(decide (vi19 < (s.length:Int)))=true) (need ((decide (vi19 < (s.length:Int)))=true->(decide (vi19 < (s.length:Int)))=true) (need ((decide (vi19 < (s.length:Int)))=true->(decide (vi19 < (s.length:Int)))=true) (need ((decide (vi19 < (s.length:Int)))=true->(decide (vi19 < (s.length:Int)))=true) (need ((decide (vi19 < (s.length:Int)))=true->0<=vi19/\vi19 < (s.length:Int)) (need ((decide (vi19 < (s.length:Int)))=true->(decide (vi19 < (s.length:Int)))=true) (need ((decide (vi19 < (s.length:Int)))=true->(decide (vi19 < (s.length:Int)))=true) (need ((decide (vi19 < (s.length:Int)))=true->(decide (vi19 < (s.length:Int)))=true) (Balist_6 F f1 f2 s vi17 ((decide (vi19 < (s.length:Int)))&&(decide ((ixS ([34,40,60,58,44,59,32,9,13,10]:List UInt8) ((s.getD (vi19).toNat 0).toNat:Int)) < (0:Int)))) vs18 vi19 vs20 vc21 vl22 vl23))))))))) by kernel_rfl) (need_strike (show (decide (vi19 < (s.length:Int)))=true->(decide (vi19 < (s.length:Int)))=true from (fun q0=>q0)) (need_strike (show (decide (vi19 < (s.length:Int)))=true->(decide (vi19 < (s.length:Int)))=true from (fun q0=>q0)) (need_strike (show (decide (vi19 < (s.length:Int)))=true->(decide (vi19 < (s.length:Int)))=true from (fun q0=>q0)) (need_strike (show (decide (vi19 < (s.length:Int)))=true->(decide (vi19 < (s.length:Int)))=true from (fun q0=>q0)) (need_strike (show (decide (vi19 < (s.length:Int)))=true->(decide (vi19 < (s.length:Int)))=true from (fun q0=>q0)) (need_congr (need_strike (show (decide (vi19 < (s.length:Int)))=true->(decide (vi19 < (s.length:Int)))=true from (fun q0=>q0)) (need_strike (show (decide (vi19 < (s.length:Int)))=true->(decide (vi19 < (s.length:Int)))=true from (fun q0=>q0)) (need_strike (show (decide (vi19 < (s.length:Int)))=true->(decide (vi19 < (s.length:Int)))=true from (fun q0=>q0)) (rfl))))))))))
theorem Balist_6_eq (F f1 f2:Nat) (s:List UInt8) (vi17:Int) (vc24:Bool) (vs18:List UInt8) (vi19:Int) (vs20:List UInt8) (vc21:Bool) (vl22:List (List UInt8)) (vl23:List (List UInt8×List UInt8×List UInt8)):Balist_6 F f1 f2 s vi17 vc24 vs18 vi19 vs20 vc21 vl22 vl23=cond (vc24) (need (i64ok (vi19+(1:Int))) (Balist_5 F f1 f2 s vi17 vs18 (vi19+(1:Int)) vs20 vc21 vl22 vl23)) (need (0<=vi17/\vi17<=vi19/\vi19<=(s.length:Int)) (need ((vl22.length+[(s.take (vi19).toNat).drop (vi17).toNat].length) * 16<=140737488355328) (Balist_1 F f1 s vs18 vi19 vs20 vc21 (vl22++[(s.take (vi19).toNat).drop (vi17).toNat]) vl23))):=by kernel_rfl
theorem Falist_eq (F:Nat) (s:List UInt8):Falist F s=Balist_1 F F s s (0:Int) ([]:List UInt8) false ([]:List (List UInt8)) ([]:List (List UInt8×List UInt8×List UInt8)):=by kernel_rfl
theorem fn_alist (F:Nat) (s:List UInt8) (r:AV) (h:(∃ M vs,ARels γ0 M [.p (.str s)] vs)->Falist F s=some (r,[])):FnP Tryz.prog 49 [.p (.str s)] r:=
 FnP_run Galist F rfl (EnvOk_mk (l:=[(53,sp_cut),(87,sp_ixb)]) ⟨ok_cut.any,ok_ixb.any,trivial⟩) (EnvROk_mk (l:=[(81,sp_within_),(82,sp_remark),(83,sp_newrep),(84,sp_repl),(85,sp_drop),(86,sp_tell)]) ⟨ok_within_,ok_remark,ok_newrep,ok_repl,ok_drop,ok_tell,trivial⟩) (Checked.mixed Tryz.checked) (fn:=Tryz.f49) (by kernel_rfl) (by kernel_rfl) rfl h
theorem ix_at (c:UInt8):decide ((ixS ([34,40,60,58,44,59,32,9,13,10]:List UInt8) ((c.toNat:Nat):Int)) < (0:Int))=isAt c:=by
 revert c
 have h:∀ k,k < 256->decide ((ixS ([34,40,60,58,44,59,32,9,13,10]:List UInt8) (((UInt8.ofNat k).toNat:Nat):Int)) < (0:Int))=isAt (UInt8.ofNat k):=by
  have:((List.range 256).all fun k=>decide ((ixS ([34,40,60,58,44,59,32,9,13,10]:List UInt8) (((UInt8.ofNat k).toNat:Nat):Int)) < (0:Int))==isAt (UInt8.ofNat k))=true:=by kernel_rfl
  intro k hk
  exact beq_iff_eq.1 (List.all_eq_true.1 this k (List.mem_range.2 hk))
 intro c
 have:=h c.toNat c.toNat_lt
 rwa [UInt8.ofNat_toNat] at this
theorem al_word (F f1:Nat) (s an:List UInt8) (hs:Bool) (ws:List (List UInt8)) (out:List AddrT) (b:Nat) (hS:s.length<=1000000) (hw:ws.length<=1000000):∀ (r:List UInt8) (i f2:Nat),s.drop i=r->b<=i->i+r.length=s.length->r.length < f2->
 Balist_5 F f1 f2 s (b:Int) s (i:Int) an hs ws out=Balist_1 F f1 s s ((i+(r.takeWhile isAt).length:Nat):Int) an hs (ws++[(s.drop b).take (i+(r.takeWhile isAt).length - b)]) out
 | [],i,f2,hd,hb,hl,hf=>by
  obtain ⟨f2,rfl⟩:∃ k,f2=k+1:=⟨f2 - 1,by omega⟩
  have hl:i=s.length:=by simpa using hl
  rw [Balist_5_eq]
  refine need_mk (fun h=>absurd h (by simp; omega)) ?_
  rw [Balist_6_eq]
  refine cond_f (by rw [Bool.and_eq_false_iff]; exact .inl (decide_eq_false (by omega))) (need_mk ⟨by omega,by omega,by omega⟩ (need_mk (by simp; omega) ?_))
  simp only [List.takeWhile_nil,List.length_nil,Nat.add_zero,Int.toNat_natCast,List.drop_take]
 | c::r,i,f2,hd,hb,hl,hf=>by
  obtain ⟨f2,rfl⟩:∃ k,f2=k+1:=⟨f2 - 1,by omega⟩
  obtain ⟨hg,hd2,hi⟩:=adr_drop hd
  rw [List.length_cons] at hl hf
  rw [Balist_5_eq,Int.toNat_natCast,hg,ix_at]
  refine need_mk (fun _=>⟨by omega,by omega⟩) ?_
  rw [Balist_6_eq]
  cases hc:isAt c with
  | true=>
   refine cond_t (by rw [Bool.and_true]; exact decide_eq_true (by omega)) (need_mk ⟨by omega,by omega⟩ ?_)
   rw [show ((i:Int)+1)=((i+1:Nat):Int) by omega,al_word F f1 s an hs ws out b hS hw r (i+1) f2 hd2 (by omega) (by omega) (by omega)]
   rw [List.takeWhile_cons_of_pos hc,List.length_cons,show i+((r.takeWhile isAt).length+1)=i+1+(r.takeWhile isAt).length by omega]
  | false=>
   refine cond_f (by rw [Bool.and_false]) (need_mk ⟨by omega,by omega,by omega⟩ (need_mk (by simp; omega) ?_))
   rw [List.takeWhile_cons_of_neg (by simp [hc])]
   simp only [List.length_nil,Nat.add_zero,Int.toNat_natCast,List.drop_take]
theorem tellok_of {ws:List (List UInt8)} {an:List UInt8} {out:List AddrT} (h1:totL ws+ws.length<=80000) (h2:an.length<=40000) (h3:out.length<=40000):tellok ws an out:=by
 have hj:=joinS_one ws 80000 h1
 exact ⟨⟨by simp,by omega,by omega⟩,⟨by simp,by omega,by omega⟩,by omega,by omega,by omega,by omega⟩
theorem tellS_len (ws:List (List UInt8)) (an:List UInt8) (hs:Bool) (out:List AddrT):(tellS ws an hs out).length<=out.length+1:=by
 unfold tellS; split <;> simp
theorem al_loop (F:Nat) (s:List UInt8) (hS:s.length<=40000):∀ (n:Nat) (r:List UInt8) (i f:Nat) (ws:List (List UInt8)) (an:List UInt8) (hs:Bool) (out:List AddrT),r.length<=n->s.drop i=r->i+r.length=s.length->totL ws+ws.length<=2 * i->an.length<=s.length->out.length<=i->r.length < f->
 Balist_1 F f s s (i:Int) an hs ws out=some (.p (.list 3 (.dat addrC (adF (r.length+1) r ws an hs out))),[]):=by
 intro n
 induction n with
 | zero=>
  intro r i f ws an hs out hn hd hl hw ha ho hf
  obtain rfl:r=[]:=List.eq_nil_of_length_eq_zero (by omega)
  obtain ⟨f,rfl⟩:∃ k,f=k+1:=⟨f - 1,by omega⟩
  have hl:i=s.length:=by simpa using hl
  rw [Balist_1_eq]
  exact cond_f (decide_eq_false (by omega)) (need_mk (tellok_of (by omega) (by omega) (by omega)) rfl)
 | succ n ih=>
  intro r i f ws an hs out hn hd hl hw ha ho hf
  obtain ⟨f,rfl⟩:∃ k,f=k+1:=⟨f - 1,by omega⟩
  cases r with
  | nil=>
   have hl:i=s.length:=by simpa using hl
   rw [Balist_1_eq]
   exact cond_f (decide_eq_false (by omega)) (need_mk (tellok_of (by omega) (by omega) (by omega)) rfl)
  | cons c r=>
   obtain ⟨hg,hd2,hi⟩:=adr_drop hd
   rw [List.length_cons] at hn hl hf
   have e1:((i:Int)+1)=((i+1:Nat):Int):=by omega
   have e2:((i+1:Nat):Int).toNat=i+1:=Int.toNat_natCast _
   have hdd:∀ k,s.drop (i+1+k)=r.drop k:=fun k=>by rw [<-hd2,List.drop_drop]
   have key:∀ (k:Nat) (ws':List (List UInt8)) (an':List UInt8) (hs':Bool) (out':List AddrT),k<=r.length->totL ws'+ws'.length<=2 * (i+1+k)->an'.length<=s.length->out'.length<=i+1->
    Balist_1 F f s s ((i+1+k:Nat):Int) an' hs' ws' out'=some (.p (.list 3 (.dat addrC (adF (r.length+1) (r.drop k) ws' an' hs' out'))),[]):=fun k ws' an' hs' out' hk h1 h2 h3=>by
    have hlen:(r.drop k).length=r.length - k:=List.length_drop
    rw [ih (r.drop k) (i+1+k) f ws' an' hs' out' (by omega) (hdd k) (by omega) h1 h2 (by omega) (by omega)]
    rw [adF_fuel ((r.drop k).length+1) (r.length+1) (r.drop k) ws' an' hs' out' (by omega) (by omega)]
   have key0:=fun ws' an' hs' out'=>key 0 ws' an' hs' out' (Nat.zero_le _)
   simp only [Nat.add_zero,List.drop_zero] at key0
   have hrd:rdok s (i+1:Nat):=⟨by omega,by omega,by omega⟩
   rw [Balist_1_eq]
   refine cond_t (decide_eq_true (by omega)) (need_mk ⟨by omega,by omega⟩ (need_mk ⟨by omega,by omega⟩ ?_))
   rw [Int.toNat_natCast,hg,e1,e2,hd2,adr_u8 c 34 34 34 rfl rfl,adr_u8 c 40 40 40 rfl rfl,adr_u8 c 60 60 60 rfl rfl,adr_u8 c 58 58 58 rfl rfl,adr_u8 c 44 44 44 rfl rfl,adr_u8 c 59 59 59 rfl rfl,adr_u8 c 32 32 32 rfl rfl,adr_u8 c 9 9 9 rfl rfl,adr_u8 c 13 13 13 rfl rfl,adr_u8 c 10 10 10 rfl rfl]
   rw [List.length_cons,adF]
   by_cases h34:c=34
   .rw [if_pos h34]
    refine cond_t (decide_eq_true h34) ?_
    have hwi:=wiF_le r.length r (Nat.le_refl _)
    refine need_mk hrd (need_mk (by simp; omega) (need_mk hrd (need_mk (by simp; omega) ?_)))
    rw [show (((i+1:Nat):Int)+((wiF r).2:Int))=((i+1+(wiF r).2:Nat):Int) by omega]
    exact key (wiF r).2 (ws++[(wiF r).1]) an hs out hwi.2 (by rw [totL_app,List.length_append,List.length_singleton]; omega) ha (by omega)
   rw [if_neg h34]
   refine cond_f (decide_eq_false h34) ?_
   by_cases h40:c=40
   .rw [if_pos h40]
    refine cond_t (decide_eq_true h40) ?_
    have hrm:=rmF_le r.length 1 r (Nat.le_refl _)
    refine need_mk hrd ?_
    rw [show (((i+1:Nat):Int)+(rmF 1 r:Int))=((i+1+rmF 1 r:Nat):Int) by omega]
    exact key (rmF 1 r) ws an hs out hrm (by omega) ha (by omega)
   rw [if_neg h40]
   refine cond_f (decide_eq_false h40) ?_
   by_cases h60:c=60
   .rw [if_pos h60]
    refine cond_t (decide_eq_true h60) ?_
    have hcl:=cutS_len r 62
    have hun:=bk_len (cutS r 62).1
    refine need_mk ⟨by omega,by omega⟩ (need_mk (by omega) (need_mk ⟨by omega,by omega⟩ (need_mk ⟨by omega,by omega⟩ ?_)))
    rw [Balist_2_eq]
    refine need_mk (by omega) ?_
    by_cases hm:(s.length:Int) < (((i+1:Nat):Int)+((cutS r 62).1.length:Int))+1
    .rw [if_pos hm]
     have hk:(cutS r 62).1.length=r.length:=by omega
     rw [show ((s.length:Nat):Int)=((i+1+r.length:Nat):Int) by omega,key r.length ws _ true out (Nat.le_refl _) (by omega) (by omega) (by omega),List.drop_eq_nil_of_le (by omega),List.drop_eq_nil_of_le (show r.length<=(cutS r 62).1.length+1 by omega)]
     rfl
    .rw [if_neg hm]
     rw [show (((i+1:Nat):Int)+((cutS r 62).1.length:Int))+1=((i+1+((cutS r 62).1.length+1):Nat):Int) by omega]
     exact key ((cutS r 62).1.length+1) ws _ true out (by omega) (by omega) (by omega) (by omega)
   rw [if_neg h60]
   refine cond_f (decide_eq_false h60) ?_
   by_cases h58:c=58
   .rw [if_pos h58]
    refine cond_t (decide_eq_true h58) ?_
    exact key0 [] [] false out (by simp [totL]) (by simp) (by omega)
   rw [if_neg h58]
   refine cond_f (decide_eq_false h58) ?_
   have htl:=tellS_len ws an hs out
   have htk:tellok ws an out:=tellok_of (by omega) (by omega) (by omega)
   by_cases h44:c=44
   .rw [if_pos (.inl h44)]
    refine cond_t (decide_eq_true h44) ?_
    rw [Balist_3_eq]
    exact need_mk htk (key0 [] [] false _ (by simp [totL]) (by simp) (by omega))
   refine cond_f (decide_eq_false h44) ?_
   by_cases h59:c=59
   .rw [if_pos (.inr h59)]
    refine cond_t (decide_eq_true h59) ?_
    rw [Balist_3_eq]
    exact need_mk htk (key0 [] [] false _ (by simp [totL]) (by simp) (by omega))
   refine cond_f (decide_eq_false h59) ?_
   rw [if_neg (by rintro (h | h) <;> contradiction)]
   have hskip:∀ b:Bool,b=true->Balist_4 F f s b s ((i+1:Nat):Int) an hs ws out=some (.p (.list 3 (.dat addrC (adF (r.length+1) r ws an hs out))),[]):=fun b hb=>by
    rw [Balist_4_eq]
    exact cond_t hb (key0 ws an hs out (by omega) ha (by omega))
   by_cases h32:c=32
   .rw [if_pos (.inl h32)]
    exact cond_t (decide_eq_true h32) (hskip _ (decide_eq_true h32))
   refine cond_f (decide_eq_false h32) ?_
   by_cases h9:c=9
   .rw [if_pos (.inr (.inl h9))]
    exact cond_t (decide_eq_true h9) (hskip _ (decide_eq_true h9))
   refine cond_f (decide_eq_false h9) ?_
   by_cases h13:c=13
   .rw [if_pos (.inr (.inr (.inl h13)))]
    exact cond_t (decide_eq_true h13) (hskip _ (decide_eq_true h13))
   refine cond_f (decide_eq_false h13) ?_
   by_cases h10:c=10
   .rw [if_pos (.inr (.inr (.inr h10)))]
    exact hskip _ (decide_eq_true h10)
   rw [if_neg (by rintro (h | h | h | h) <;> contradiction),Balist_4_eq]
   refine cond_f (decide_eq_false h10) (need_mk ⟨by omega,by omega⟩ ?_)
   rw [show ((i+1:Nat):Int) - 1=(i:Int) by omega]
   have htw:=takeW_le isAt r
   rw [al_word F f s an hs ws out i (by omega) (by omega) r (i+1) f hd2 (by omega) (by omega) (by omega)]
   have ewd:(s.drop i).take (i+1+(r.takeWhile isAt).length - i)=c::r.takeWhile isAt:=by
    rw [hd,show i+1+(r.takeWhile isAt).length - i=(r.takeWhile isAt).length+1 by omega,List.take_succ_cons]
    congr 1
    conv=>lhs; rw [<-List.takeWhile_append_dropWhile (p:=isAt) (l:=r)]
    rw [List.take_left']
    simp
   have edw:r.drop (r.takeWhile isAt).length=r.dropWhile isAt:=by
    conv=>lhs; rw [<-List.takeWhile_append_dropWhile (p:=isAt) (l:=r)]
    rw [List.drop_left']
    simp
   rw [ewd,key (r.takeWhile isAt).length (ws++[c::r.takeWhile isAt]) an hs out (by omega) (by rw [totL_app,List.length_append,List.length_singleton,List.length_cons]; omega) ha (by omega),edw]
   rfl
theorem alist_eq (s:List UInt8) (hS:s.length<=40000):Falist (s.length+1) s=some (.p (.list 3 (.dat addrC (listA s))),[]):=by
 rw [Falist_eq]
 exact al_loop (s.length+1) s hS s.length s 0 (s.length+1) [] [] false [] (Nat.le_refl _) rfl (by simp) (by simp [totL]) (by simp) (by simp) (by omega)
def sp_alist:List AV->Option (AV×Option Prop)
 | [.p (.str s)]=>some (.p (.list 3 (.dat addrC (listA s))),some (s.length<=40000))
 | _=>none
theorem ok_alist:SpecOk Tryz.prog 49 sp_alist:=by
 intro zs r ok he hok
 unfold sp_alist at he
 split at he
 .cases he; exact ⟨by kernel_rfl,fn_alist _ _ _ fun _=>alist_eq _ hok⟩
 .cases he
end Go.Proofs.YtoanepondbagcaaGreatDoor
namespace Go.Proofs.YtoanepondbagcaaGreatDoor
open Go Go.Am
set_option linter.unusedVariables false
end Go.Proofs.YtoanepondbagcaaGreatDoor
namespace Go.Proofs.YtoanepondbagcaaGreatDoor
open Go.Shelf
def lays171_ren : Go.Shelf.Ren:=⟨fun |171=>91|243=>127|246=>149|283=>165|284=>166|285=>167|286=>168|129=>179|317=>178|318=>180|319=>181|320=>182|337=>193|338=>194|n=>n, fun |3=>3|9=>9|2=>2|4=>4|171=>185|0=>0|53=>186|37=>25|5=>5|173=>189|212=>211|51=>133|20=>20|213=>212|46=>103|232=>228|233=>229|n=>n, fun |17=>3|18=>4|19=>5|n=>n⟩
theorem lays171 : Go.Proofs.LaysM.n171 Tryz.prog lays171_ren:={
 mixed:=by kernel_rfl
 f129:=Tryz.func179.trans (congrArg some (by kernel_rfl))
 f171:=Tryz.func91.trans (congrArg some (by kernel_rfl))
 f243:=Tryz.func127.trans (congrArg some (by kernel_rfl))
 f246:=Tryz.func149.trans (congrArg some (by kernel_rfl))
 f283:=Tryz.func165.trans (congrArg some (by kernel_rfl))
 f284:=Tryz.func166.trans (congrArg some (by kernel_rfl))
 f285:=Tryz.func167.trans (congrArg some (by kernel_rfl))
 f286:=Tryz.func168.trans (congrArg some (by kernel_rfl))
 f317:=Tryz.func178.trans (congrArg some (by kernel_rfl))
 f318:=Tryz.func180.trans (congrArg some (by kernel_rfl))
 f319:=Tryz.func181.trans (congrArg some (by kernel_rfl))
 f320:=Tryz.func182.trans (congrArg some (by kernel_rfl))
 f337:=Tryz.func193.trans (congrArg some (by kernel_rfl))
 f338:=Tryz.func194.trans (congrArg some (by kernel_rfl))
 t0:=Tryz.underlying0
 a0:=Tryz.isAgg0
 z0:=Tryz.sizeOf0
 v0:=Tryz.zeroValue0
 t2:=Tryz.underlying2
 a2:=Tryz.isAgg2
 z2:=Tryz.sizeOf2
 v2:=Tryz.zeroValue2
 t3:=Tryz.underlying3
 a3:=Tryz.isAgg3
 z3:=Tryz.sizeOf3
 v3:=Tryz.zeroValue3
 t4:=Tryz.underlying4
 a4:=Tryz.isAgg4
 z4:=Tryz.sizeOf4
 v4:=Tryz.zeroValue4
 t5:=Tryz.underlying5
 a5:=Tryz.isAgg5
 z5:=Tryz.sizeOf5
 v5:=Tryz.zeroValue5
 t9:=Tryz.underlying9
 a9:=Tryz.isAgg9
 z9:=Tryz.sizeOf9
 v9:=Tryz.zeroValue9
 t20:=Tryz.underlying20
 a20:=Tryz.isAgg20
 z20:=Tryz.sizeOf20
 v20:=Tryz.zeroValue20
 t37:=Tryz.underlying25
 a37:=Tryz.isAgg25
 z37:=Tryz.sizeOf25
 v37:=Tryz.zeroValue25
 t46:=Tryz.underlying103
 a46:=Tryz.isAgg103
 z46:=Tryz.sizeOf103
 v46:=Tryz.zeroValue103
 t51:=Tryz.underlying133
 a51:=Tryz.isAgg133
 z51:=Tryz.sizeOf133
 v51:=Tryz.zeroValue133
 t53:=Tryz.underlying186
 a53:=Tryz.isAgg186
 z53:=Tryz.sizeOf186
 v53:=Tryz.zeroValue186
 t171:=Tryz.underlying185
 a171:=Tryz.isAgg185
 z171:=Tryz.sizeOf185
 v171:=Tryz.zeroValue185
 t173:=Tryz.underlying189
 a173:=Tryz.isAgg189
 z173:=Tryz.sizeOf189
 v173:=Tryz.zeroValue189
 t212:=Tryz.underlying211
 a212:=Tryz.isAgg211
 z212:=Tryz.sizeOf211
 v212:=Tryz.zeroValue211
 t213:=Tryz.underlying212
 a213:=Tryz.isAgg212
 z213:=Tryz.sizeOf212
 t232:=Tryz.underlying228
 a232:=Tryz.isAgg228
 z232:=Tryz.sizeOf228
 v232:=Tryz.zeroValue228
 t233:=Tryz.underlying229
 a233:=Tryz.isAgg229
 z233:=Tryz.sizeOf229
 v233:=Tryz.zeroValue229
 g17:=by kernel_rfl
 g18:=by kernel_rfl
 g19:=by kernel_rfl
 i0:=by kernel_rfl
 i2:=by kernel_rfl
 i3:=by kernel_rfl
 i4:=by kernel_rfl
 i5:=by kernel_rfl
 i9:=by kernel_rfl
 i20:=by kernel_rfl
 i37:=by kernel_rfl
 i46:=by kernel_rfl
 i51:=by kernel_rfl
 i53:=by kernel_rfl
 i171:=by kernel_rfl
 i173:=by kernel_rfl
 i212:=by kernel_rfl
 i232:=by kernel_rfl
 i233:=by kernel_rfl
 m17:=by kernel_rfl
 m18:=by kernel_rfl
 m19:=by kernel_rfl }
end Go.Proofs.YtoanepondbagcaaGreatDoor
namespace Go.Proofs.YtoanepondbagcaaGreatDoor
open Go Go.Am Go.Shelf
def itoaS (n:Int):List UInt8:=if n.toNat < 10 then [UInt8.ofNat (48+n.toNat)] else [UInt8.ofNat (48+n.toNat / 10),UInt8.ofNat (48+n.toNat % 10)]
theorem itoa_len (n:Int):(itoaS n).length<=2:=by unfold itoaS; split <;> simp
theorem itoa_dec {i:Nat} (h:i < 100):Lib.decDigits i=itoaS (i:Int):=by
 unfold itoaS
 rw [Int.toNat_natCast]
 by_cases h1:i < 10
 .rw [if_pos h1,Lib.decDigits_one h1]
 .rw [if_neg h1,Lib.decDigits_two h1 h]
def sp_itoa:List AV->Option (AV×Option Prop)
 | [.p (.int .i64 n)]=>some (.p (.str (itoaS n)),some (0<=n/\n < 100))
 | _=>none
theorem ok_itoa:SpecOk Tryz.prog 91 sp_itoa:=by
 intro zs r ok he hok
 unfold sp_itoa at he
 split at he
 .rename_i n
  cases he
  refine ⟨by kernel_rfl,fun M w vs hM hvs=>?_⟩
  cases hvs with | cons h1 h2=>
  cases h2
  cases h1 with | p _ _ h1=>
  cases h1 with | int _ _ hs=>
  have hok:0<=n/\n < 100:=hok
  obtain ⟨i,rfl⟩:=Int.eq_ofNat_of_zero_le hok.1
  have hcon:=Any.strconv_Itoa_small { lays171 with } i (by omega) w
  rw [itoa_dec (by omega)] at hcon
  refine Calls.mono hcon fun e w' ⟨he,hw⟩=>?_
  subst hw
  refine ⟨_,M,he,MLe.refl M,fun _ _=>rfl,hM,.p _ _ (.str (itoaS i) ?_),Go.RowKit.Below.refl _ _⟩
  have:=itoa_len (i:Int)
  unfold maxLen; omega
 .cases he
def tdigS (n:Int):List UInt8:=itoaS (if (0:Int) > n then (0:Int) else n)
noncomputable def ctdig:Code:=bodyOf Tryz.f54
noncomputable def Gtdig:Cfg:=⟨Tryz.prog,mkEnv [(91,sp_itoa)],mkEnvR [],6,[],[],[]⟩
noncomputable def Ftdig (F:Nat) (n:Int):Option Ans:=runF Gtdig Tryz.f54 F [.p (.int .i64 n)]
theorem Ftdig_eq (F:Nat) (n:Int):Ftdig F n=need (0<=(if (0:Int) > n then (0:Int) else n)/\(if (0:Int) > n then (0:Int) else n) < 100) (some (.p (.str (itoaS (if (0:Int) > n then (0:Int) else n))),[])):=by kernel_rfl
theorem fn_tdig (F:Nat) (n:Int) (r:AV) (h:(∃ M vs,ARels γ0 M [.p (.int .i64 n)] vs)->Ftdig F n=some (r,[])):FnP Tryz.prog 54 [.p (.int .i64 n)] r:=
 FnP_run Gtdig F rfl (EnvOk_mk (l:=[(91,sp_itoa)]) ⟨ok_itoa.any,trivial⟩) (EnvROk_mk (l:=[]) trivial) (Checked.mixed Tryz.checked) (fn:=Tryz.f54) (by kernel_rfl) (by kernel_rfl) rfl h
theorem tdig_eq (n:Int) (h:n < 100):Ftdig 0 n=some (.p (.str (tdigS n)),[]):=by
 rw [Ftdig_eq]
 refine need_mk ?_ rfl
 split <;> omega
def sp_tdig:List AV->Option (AV×Option Prop)
 | [.p (.int .i64 n)]=>some (.p (.str (tdigS n)),some (n < 100))
 | _=>none
theorem ok_tdig:SpecOk Tryz.prog 54 sp_tdig:=by
 intro zs r ok he hok
 unfold sp_tdig at he
 split at he
 .cases he; exact ⟨by kernel_rfl,fn_tdig 0 _ _ fun hx=>tdig_eq _ hok⟩
 .cases he
def isPr (c:UInt8):Bool:=decide (32<=c.toNat)&&decide (c.toNat<=126)
def tplainS (s:List UInt8):Bool:=s.all isPr&&decide (s.length<=200)
theorem isPr_dec (c:UInt8):((decide (((c.toNat:Nat):Int) < (32:Int)))||(decide (((c.toNat:Nat):Int) > (126:Int))))=!isPr c:=by
 unfold isPr
 rw [Bool.eq_iff_iff]
 simp
 omega
noncomputable def ctplain:Code:=bodyOf Tryz.f88
noncomputable def Gtplain:Cfg:=⟨Tryz.prog,mkEnv [],mkEnvR [],23,[],[([0,1,0,1],⟨[0,5,6],[]⟩),([1,1,0,0,1,1,0,0,1,0,1],⟨[0,5,6,18],[]⟩)],[]⟩
noncomputable def Btplain_1 (F f1:Nat) (s:List UInt8) (vi1 vi2:Int):Option Ans:=runR Gtplain ctplain (kP Tryz.prog Tryz.f88.results.toList) F [] [1,0,1,0] f1 [(0,.p (.str s)),(5,.p (.int .i64 vi1)),(6,.p (.int .i64 vi2))] []
noncomputable def Btplain_2 (F f1:Nat) (s:List UInt8) (vi1 vi2:Int) (vc3:Bool):Option Ans:=runB Gtplain ctplain (kP Tryz.prog Tryz.f88.results.toList) F [f1] [1,0,1,0,0,1,1,0,0,1,1] [(0,.p (.str s)),(5,.p (.int .i64 vi1)),(6,.p (.int .i64 vi2)),(18,.p (.bool vc3))] []
noncomputable def Ftplain (F:Nat) (s:List UInt8):Option Ans:=runF Gtplain Tryz.f88 F [.p (.str s)]
theorem Btplain_1_eq (F f1:Nat) (s:List UInt8) (vi1 vi2:Int):Btplain_1 F (f1+1) s vi1 vi2=cond (decide (vi2 < vi1)) (need (0<=vi2/\vi2 < (s.length:Int)) (((need ((!(decide (((s.getD (vi2).toNat 0).toNat:Int) < (32:Int))))=true->0<=vi2/\vi2 < (s.length:Int)) (((Btplain_2 F f1 s vi1 vi2 ((decide (((s.getD (vi2).toNat 0).toNat:Int) < (32:Int)))||(decide (((s.getD (vi2).toNat 0).toNat:Int) > (126:Int))))))))))) (some (.p (.bool (decide ((s.length:Int)<=(200:Int)))),[])):=by
 have h:Btplain_1 F (f1+1) s vi1 vi2=cond (decide (vi2 < vi1)) (need (0<=vi2/\vi2 < (s.length:Int)) (need ((!(decide (((s.getD (vi2).toNat 0).toNat:Int) < (32:Int))))=true->(!(decide (((s.getD (vi2).toNat 0).toNat:Int) < (32:Int))))=true) (need ((!(decide (((s.getD (vi2).toNat 0).toNat:Int) < (32:Int))))=true->(!(decide (((s.getD (vi2).toNat 0).toNat:Int) < (32:Int))))=true) (need ((!(decide (((s.getD (vi2).toNat 0).toNat:Int) < (32:Int))))=true->0<=vi2/\vi2 < (s.length:Int)) (need ((!(decide (((s.getD (vi2).toNat 0).toNat:Int) < (32:Int))))=true->(!(decide (((s.getD (vi2).toNat 0).toNat:Int) < (32:Int))))=true) (need ((decide (((s.getD (vi2).toNat 0).toNat:Int) < (32:Int)))=false->(!(decide (((s.getD (vi2).toNat 0).toNat:Int) < (32:Int))))=true) (Btplain_2 F f1 s vi1 vi2 ((decide (((s.getD (vi2).toNat 0).toNat:Int) < (32:Int)))||(decide (((s.getD (vi2).toNat 0).toNat:Int) > (126:Int))))))))))) (some (.p (.bool (decide ((s.length:Int)<=(200:Int)))),[])):=by kernel_rfl
 rw [h,need_pos (show (decide (((s.getD (vi2).toNat 0).toNat:Int) < (32:Int)))=false->(!(decide (((s.getD (vi2).toNat 0).toNat:Int) < (32:Int))))=true from (fun q0=>(not_mk q0))),need_pos (show (!(decide (((s.getD (vi2).toNat 0).toNat:Int) < (32:Int))))=true->(!(decide (((s.getD (vi2).toNat 0).toNat:Int) < (32:Int))))=true from (fun q0=>q0)),need_pos (show (!(decide (((s.getD (vi2).toNat 0).toNat:Int) < (32:Int))))=true->(!(decide (((s.getD (vi2).toNat 0).toNat:Int) < (32:Int))))=true from (fun q0=>q0)),need_pos (show (!(decide (((s.getD (vi2).toNat 0).toNat:Int) < (32:Int))))=true->(!(decide (((s.getD (vi2).toNat 0).toNat:Int) < (32:Int))))=true from (fun q0=>q0))]
theorem Btplain_2_eq (F f1:Nat) (s:List UInt8) (vi1 vi2:Int) (vc3:Bool):Btplain_2 F f1 s vi1 vi2 vc3=cond (vc3) (some (.p (.bool false),[])) (need (i64ok (vi2+(1:Int))) (Btplain_1 F f1 s vi1 (vi2+(1:Int)))):=by kernel_rfl
theorem Ftplain_eq (F:Nat) (s:List UInt8):Ftplain F s=Btplain_1 F F s (s.length:Int) (0:Int):=by kernel_rfl
theorem fn_tplain (F:Nat) (s:List UInt8) (r:AV) (h:(∃ M vs,ARels γ0 M [.p (.str s)] vs)->Ftplain F s=some (r,[])):FnP Tryz.prog 88 [.p (.str s)] r:=
 FnP_run Gtplain F rfl (EnvOk_mk (l:=[]) trivial) (EnvROk_mk (l:=[]) trivial) (Checked.mixed Tryz.checked) (fn:=Tryz.f88) (by kernel_rfl) (by kernel_rfl) rfl h
theorem tplain_loop (F:Nat) (s:List UInt8) (hs:s.length<=1000000):∀ (r:List UInt8) (i f:Nat),s.drop i=r->i+r.length=s.length->r.length < f->
 Btplain_1 F f s (s.length:Int) (i:Int)=some (.p (.bool (r.all isPr&&decide (s.length<=200))),[])
 | [],i,f,hd,hi,hf=>by
  obtain ⟨f,rfl⟩:∃ k,f=k+1:=⟨f - 1,by omega⟩
  have hi:i=s.length:=by simpa using hi
  rw [Btplain_1_eq,List.all_nil,Bool.true_and]
  refine cond_f (decide_eq_false (by omega)) ?_
  rw [show decide ((s.length:Int)<=(200:Int))=decide (s.length<=200) from decide_eq_decide.2 (by omega)]
 | c::r,i,f,hd,hi,hf=>by
  obtain ⟨f,rfl⟩:∃ k,f=k+1:=⟨f - 1,by omega⟩
  obtain ⟨hg,hd2,hi2⟩:=adr_drop hd
  rw [List.length_cons] at hi hf
  rw [Btplain_1_eq,Int.toNat_natCast,hg,isPr_dec]
  refine cond_t (decide_eq_true (by omega)) (need_mk ⟨by omega,by omega⟩ (need_mk (fun _=>⟨by omega,by omega⟩) ?_))
  rw [Btplain_2_eq]
  cases h:isPr c with
  | false=>
   refine cond_t rfl ?_
   rw [List.all_cons,h,Bool.false_and,Bool.false_and]
  | true=>
   refine cond_f rfl (need_mk (by unfold i64ok; omega) ?_)
   rw [List.all_cons,h,Bool.true_and,show ((i:Int)+1)=((i+1:Nat):Int) by omega]
   exact tplain_loop F s hs r (i+1) f hd2 (by omega) (by omega)
theorem tplain_eq (s:List UInt8) (hs:s.length<=1000000):Ftplain (s.length+1) s=some (.p (.bool (tplainS s)),[]):=by
 rw [Ftplain_eq]
 exact tplain_loop _ s hs s 0 _ rfl (by simp) (by omega)
def sp_tplain:List AV->Option (AV×Option Prop)
 | [.p (.str s)]=>some (.p (.bool (tplainS s)),some (s.length<=1000000))
 | _=>none
theorem ok_tplain:SpecOk Tryz.prog 88 sp_tplain:=by
 intro zs r ok he hok
 unfold sp_tplain at he
 split at he
 .cases he; exact ⟨by kernel_rfl,fn_tplain (_) _ _ fun hx=>tplain_eq _ hok⟩
 .cases he
def escQ:List UInt8->List UInt8
 | []=>[]
 | c::r=>if c=34\/c=92 then 92::c::escQ r else c::escQ r
def tstrS (s:List UInt8):List UInt8:=if tplainS s=true then 34::(escQ s++[34]) else ((([123]:List UInt8)++tdigS (s.length:Int))++([125,13,10]:List UInt8))++s
noncomputable def ctstr:Code:=bodyOf Tryz.f50
noncomputable def Gtstr:Cfg:=⟨Tryz.prog,mkEnv [(54,sp_tdig),(88,sp_tplain)],mkEnvR [],45,[],[([0,1,0,1,1,1],⟨[0,3,17,18],[⟨.slot 3,3,(.barr 5 false [])⟩]⟩),([1,0,1,0,0,1,1,0,0,1,0,1,1,1],⟨[0,3,4,17,18,30],[⟨.slot 3,3,(.barr 5 false [])⟩]⟩),([1,1,0,0,1,1,0,0,1,0,1,1,1],⟨[0,3,4,17,18],[⟨.slot 3,3,(.barr 5 false [])⟩]⟩)],[]⟩
noncomputable def Btstr_1 (F f1:Nat) (s:List UInt8) (vi1 vi2:Int) (vb3:List UInt8):Option Ans:=runR Gtstr ctstr (kP Tryz.prog Tryz.f50.results.toList) F [] [1,1,1,0,1,0] f1 [(0,.p (.str s)),(3,.arr 3),(17,.p (.int .i64 vi1)),(18,.p (.int .i64 vi2))] [(3,.barr 5 false vb3)]
noncomputable def Btstr_2 (F f1:Nat) (s:List UInt8) (vi2 vi1:Int) (vc4:Bool) (vb3:List UInt8):Option Ans:=runB Gtstr ctstr (kP Tryz.prog Tryz.f50.results.toList) F [f1] [1,1,1,0,1,0,0,1,1,0,0,1,0,1] [(0,.p (.str s)),(3,.arr 3),(4,.p (.int .i64 vi2)),(17,.p (.int .i64 vi1)),(18,.p (.int .i64 vi2)),(30,.p (.bool vc4))] [(3,.barr 5 false vb3)]
noncomputable def Btstr_3 (F f1:Nat) (s:List UInt8) (vi2 vi1:Int) (vb5:List UInt8):Option Ans:=runB Gtstr ctstr (kP Tryz.prog Tryz.f50.results.toList) F [f1] [1,1,1,0,1,0,0,1,1,0,0,1,1] [(0,.p (.str s)),(3,.arr 3),(4,.p (.int .i64 vi2)),(17,.p (.int .i64 vi1)),(18,.p (.int .i64 vi2))] [(3,.barr 5 false vb5)]
noncomputable def Ftstr (F:Nat) (s:List UInt8):Option Ans:=runF Gtstr Tryz.f50 F [.p (.str s)]
theorem Btstr_1_eq (F f1:Nat) (s:List UInt8) (vi1 vi2:Int) (vb3:List UInt8):Btstr_1 F (f1+1) s vi1 vi2 vb3=cond (decide (vi2 < vi1)) (need (0<=vi2/\vi2 < (s.length:Int)) (((need ((!(((s.getD (vi2).toNat 0).toNat:Int)==(34:Int)))=true->0<=vi2/\vi2 < (s.length:Int)) (((Btstr_2 F f1 s vi2 vi1 ((((s.getD (vi2).toNat 0).toNat:Int)==(34:Int))||(((s.getD (vi2).toNat 0).toNat:Int)==(92:Int))) vb3))))))) (need ((vb3.length+[UInt8.ofNat ((34:Int)).toNat].length) * 1<=140737488355328) (some (.p (.str (vb3++[UInt8.ofNat ((34:Int)).toNat])),[]))):=by
 have h:Btstr_1 F (f1+1) s vi1 vi2 vb3=cond (decide (vi2 < vi1)) (need (0<=vi2/\vi2 < (s.length:Int)) (need ((!(((s.getD (vi2).toNat 0).toNat:Int)==(34:Int)))=true->(!(((s.getD (vi2).toNat 0).toNat:Int)==(34:Int)))=true) (need ((!(((s.getD (vi2).toNat 0).toNat:Int)==(34:Int)))=true->(!(((s.getD (vi2).toNat 0).toNat:Int)==(34:Int)))=true) (need ((!(((s.getD (vi2).toNat 0).toNat:Int)==(34:Int)))=true->0<=vi2/\vi2 < (s.length:Int)) (need ((!(((s.getD (vi2).toNat 0).toNat:Int)==(34:Int)))=true->(!(((s.getD (vi2).toNat 0).toNat:Int)==(34:Int)))=true) (need ((((s.getD (vi2).toNat 0).toNat:Int)==(34:Int))=false->(!(((s.getD (vi2).toNat 0).toNat:Int)==(34:Int)))=true) (Btstr_2 F f1 s vi2 vi1 ((((s.getD (vi2).toNat 0).toNat:Int)==(34:Int))||(((s.getD (vi2).toNat 0).toNat:Int)==(92:Int))) vb3))))))) (need ((vb3.length+[UInt8.ofNat ((34:Int)).toNat].length) * 1<=140737488355328) (some (.p (.str (vb3++[UInt8.ofNat ((34:Int)).toNat])),[]))):=by kernel_rfl
 rw [h,need_pos (show (((s.getD (vi2).toNat 0).toNat:Int)==(34:Int))=false->(!(((s.getD (vi2).toNat 0).toNat:Int)==(34:Int)))=true from (fun q0=>(not_mk q0))),need_pos (show (!(((s.getD (vi2).toNat 0).toNat:Int)==(34:Int)))=true->(!(((s.getD (vi2).toNat 0).toNat:Int)==(34:Int)))=true from (fun q0=>q0)),need_pos (show (!(((s.getD (vi2).toNat 0).toNat:Int)==(34:Int)))=true->(!(((s.getD (vi2).toNat 0).toNat:Int)==(34:Int)))=true from (fun q0=>q0)),need_pos (show (!(((s.getD (vi2).toNat 0).toNat:Int)==(34:Int)))=true->(!(((s.getD (vi2).toNat 0).toNat:Int)==(34:Int)))=true from (fun q0=>q0))]
theorem Btstr_2_eq (F f1:Nat) (s:List UInt8) (vi2 vi1:Int) (vc4:Bool) (vb3:List UInt8):Btstr_2 F f1 s vi2 vi1 vc4 vb3=cond (vc4) (need ((vb3.length+[UInt8.ofNat ((92:Int)).toNat].length) * 1<=140737488355328) (Btstr_3 F f1 s vi2 vi1 (vb3++[UInt8.ofNat ((92:Int)).toNat]))) (Btstr_3 F f1 s vi2 vi1 vb3):=by kernel_rfl
theorem Btstr_3_eq (F f1:Nat) (s:List UInt8) (vi2 vi1:Int) (vb5:List UInt8):Btstr_3 F f1 s vi2 vi1 vb5=need (0<=vi2/\vi2 < (s.length:Int)) (need ((vb5.length+[UInt8.ofNat (((s.getD (vi2).toNat 0).toNat:Int)).toNat].length) * 1<=140737488355328) (need (i64ok (vi2+(1:Int))) (Btstr_1 F f1 s vi1 (vi2+(1:Int)) (vb5++[UInt8.ofNat (((s.getD (vi2).toNat 0).toNat:Int)).toNat])))):=by kernel_rfl
theorem Ftstr_eq (F:Nat) (s:List UInt8):Ftstr F s=need (s.length<=1000000) (cond (!(tplainS s)) (need ((s.length:Int) < 100) (need (lenok (([123]:List UInt8).length+(tdigS (s.length:Int)).length)) (need (lenok ((([123]:List UInt8)++(tdigS (s.length:Int))).length+([125,13,10]:List UInt8).length)) (need (lenok (((([123]:List UInt8)++(tdigS (s.length:Int)))++([125,13,10]:List UInt8)).length+s.length)) (some (.p (.str (((([123]:List UInt8)++(tdigS (s.length:Int)))++([125,13,10]:List UInt8))++s)),[])))))) (Btstr_1 F F s (s.length:Int) (0:Int) [UInt8.ofNat ((34:Int)).toNat])):=by kernel_rfl
theorem fn_tstr (F:Nat) (s:List UInt8) (r:AV) (h:(∃ M vs,ARels γ0 M [.p (.str s)] vs)->Ftstr F s=some (r,[])):FnP Tryz.prog 50 [.p (.str s)] r:=
 FnP_run Gtstr F rfl (EnvOk_mk (l:=[(54,sp_tdig),(88,sp_tplain)]) ⟨ok_tdig.any,ok_tplain.any,trivial⟩) (EnvROk_mk (l:=[]) trivial) (Checked.mixed Tryz.checked) (fn:=Tryz.f50) (by kernel_rfl) (by kernel_rfl) rfl h
theorem tstr_loop (F:Nat) (s:List UInt8) (hs:s.length<=1000000):∀ (r b:List UInt8) (i f:Nat),s.drop i=r->i+r.length=s.length->b.length+2 * r.length<=2000001->r.length < f->
 Btstr_1 F f s (s.length:Int) (i:Int) b=some (.p (.str (b++(escQ r++[34]))),[])
 | [],b,i,f,hd,hi,hb,hf=>by
  obtain ⟨f,rfl⟩:∃ k,f=k+1:=⟨f - 1,by omega⟩
  have hi:i=s.length:=by simpa using hi
  rw [Btstr_1_eq,escQ]
  exact cond_f (decide_eq_false (by omega)) (need_mk (by simp at hb ⊢; omega) rfl)
 | c::r,b,i,f,hd,hi,hb,hf=>by
  obtain ⟨f,rfl⟩:∃ k,f=k+1:=⟨f - 1,by omega⟩
  obtain ⟨hg,hd2,hi2⟩:=adr_drop hd
  rw [List.length_cons] at hi hb hf
  have e1:((i:Int)+1)=((i+1:Nat):Int):=by omega
  rw [Btstr_1_eq,Int.toNat_natCast,hg,adr_u8 c 34 34 34 rfl rfl,adr_u8 c 92 92 92 rfl rfl]
  refine cond_t (decide_eq_true (by omega)) (need_mk ⟨by omega,by omega⟩ (need_mk (fun _=>⟨by omega,by omega⟩) ?_))
  rw [Btstr_2_eq,Btstr_3_eq,Btstr_3_eq,e1,escQ]
  simp only [Int.toNat_natCast,hg,UInt8.ofNat_toNat]
  by_cases h:c=34\/c=92
  .rw [if_pos h]
   refine cond_t (by rcases h with h | h <;> simp [h]) (need_mk (by simp; omega) (need_mk ⟨by omega,by omega⟩ (need_mk (by simp; omega) (need_mk (by unfold i64ok; omega) ?_))))
   rw [tstr_loop F s hs r _ (i+1) f hd2 (by omega) (by simp; omega) (by omega)]
   simp
  .rw [if_neg h]
   refine cond_f (by simpa [not_or] using h) (need_mk ⟨by omega,by omega⟩ (need_mk (by simp; omega) (need_mk (by unfold i64ok; omega) ?_)))
   rw [tstr_loop F s hs r _ (i+1) f hd2 (by omega) (by simp; omega) (by omega)]
   simp
theorem tstr_eq (s:List UInt8) (h:s.length<=1000000/\(tplainS s=true\/s.length < 100)):Ftstr (s.length+1) s=some (.p (.str (tstrS s)),[]):=by
 rw [Ftstr_eq,tstrS]
 refine need_mk h.1 ?_
 cases hp:tplainS s with
 | true=>
  rw [if_pos rfl]
  refine cond_f rfl ?_
  exact tstr_loop _ s h.1 s [34] 0 _ rfl (by simp) (by simp; omega) (by omega)
 | false=>
  have h2 : s.length < 100 := by rcases h.2 with q | q
                                 .rw [hp] at q; cases q
                                 .exact q
  have hl:(tdigS (s.length:Int)).length<=2:=itoa_len _
  rw [if_neg (by decide)]
  exact cond_t rfl (need_mk (by omega) (need_mk (by unfold lenok; simp; omega) (need_mk (by unfold lenok; simp; omega) (need_mk (by unfold lenok; simp; omega) rfl))))
def sp_tstr:List AV->Option (AV×Option Prop)
 | [.p (.str s)]=>some (.p (.str (tstrS s)),some (s.length<=1000000/\(tplainS s=true\/s.length < 100)))
 | _=>none
theorem ok_tstr:SpecOk Tryz.prog 50 sp_tstr:=by
 intro zs r ok he hok
 unfold sp_tstr at he
 split at he
 .cases he; exact ⟨by kernel_rfl,fn_tstr (_) _ _ fun hx=>tstr_eq _ hok⟩
 .cases he
end Go.Proofs.YtoanepondbagcaaGreatDoor
namespace Go.Proofs.YtoanepondbagcaaGreatDoor
open Go Go.Am
set_option linter.unusedVariables false
theorem FnP_args {P:Program} {f:FuncId} {args args':List AV} {r:AV} (h:∀ (M:Mem) (vs:List Value),ARels γ0 M args vs->ARels γ0 M args' vs) (k:FnP P f args' r):FnP P f args r:=
 fun M w vs hM hvs=>k M w vs hM (h M vs hvs)
theorem box1_rel {M:Mem} {f g:Nat->PV} {v:Value} (h:PRel M (.box 1 f) v) (e:f 0=g 0):PRel M (.box 1 g) v:=by
 cases h with
 | box _ _ b off x hM hx=>
  refine .box 1 g b off x hM fun j hj=>?_
  have:j=0:=by omega
  subst this
  rw [<-e]; exact hx 0 (by omega)
theorem box1_arel {M:Mem} {f g:Nat->PV} {v:Value} (h:ARel γ0 M (.p (.box 1 f)) v) (e:f 0=g 0):ARel γ0 M (.p (.box 1 g)) v:=.p _ _ (box1_rel h.p_inv e)
noncomputable def Genvor0:Cfg:=⟨Tryz.prog,mkEnv [(25,sp_addresses0)],mkEnvR [],13,[],[],[]⟩
noncomputable def Fenvor0 (F:Nat) (n:List UInt8):Option Ans:=runF Genvor0 Tryz.f26 F [.p (.str n),.p (.box 1 (fun _=>(.list 2 (.dat (.pair .str .str) []):PV))),.p (.box 1 (fun _=>(.str [78,73,76]:PV)))]
theorem Fenvor0_eq (F:Nat) (n:List UInt8):Fenvor0 F n=need (firstok ([]:List (List UInt8×List UInt8)) n) (cond (([78,73,76]:List UInt8) != ([78,73,76]:List UInt8)) (some (.p (.str ([78,73,76]:List UInt8)),[])) (some (.p (.str ([78,73,76]:List UInt8)),[]))):=by kernel_rfl
theorem fn_envor0 (F:Nat) (n:List UInt8) (r:AV) (h:(∃ M vs,ARels γ0 M [.p (.str n),.p (.box 1 (fun _=>(.list 2 (.dat (.pair .str .str) []):PV))),.p (.box 1 (fun _=>(.str [78,73,76]:PV)))] vs)->Fenvor0 F n=some (r,[])):FnP Tryz.prog 26 [.p (.str n),.p (.box 1 (fun _=>(.list 2 (.dat (.pair .str .str) []):PV))),.p (.box 1 (fun _=>(.str [78,73,76]:PV)))] r:=
 FnP_run Genvor0 F rfl (EnvOk_mk (l:=[(25,sp_addresses0)]) ⟨ok_addresses0.any,trivial⟩) (EnvROk_mk (l:=[]) trivial) (Checked.mixed Tryz.checked) (fn:=Tryz.f26) (by kernel_rfl) (by kernel_rfl) rfl h
def sp_envor0:List AV->Option (AV×Option Prop)
 | [.p (.str n),.p (.box 1 f),.p (.box 1 g)]=>match f 0,g 0 with
  | .list 2 (.dat (.pair .str .str) []),.str [78,73,76]=>some (.p (.str [78,73,76]),some (firstok [] n))
  | _,_=>none
 | _=>none
theorem ok_envor0:SpecOk Tryz.prog 26 sp_envor0:=by
 intro zs r ok he hok
 unfold sp_envor0 at he
 split at he
 .rename_i n f g
  split at he
  .rename_i hf hg
   cases he
   refine ⟨by kernel_rfl,FnP_args (fun M vs h=>?_) (fn_envor0 0 n _ fun _=>by rw [Fenvor0_eq]; exact need_mk hok rfl)⟩
   cases h with | cons h1 h=>
   cases h with | cons h2 h=>
   cases h with | cons h3 h=>
   cases h
   exact .cons h1 (.cons (box1_arel h2 hf) (.cons (box1_arel h3 hg) .nil))
  .cases he
 .cases he
noncomputable def Genvelope0:Cfg:=⟨Tryz.prog,mkEnv [(24,sp_fields0),(25,sp_addresses0),(26,sp_envor0),(27,sp_joinl),(28,sp_nstring0)],mkEnvR [],38,[],[],[([888888,1,1,1,1],[3,0,5,0])]⟩
noncomputable def Fenvelope0 (F:Nat) :Option Ans:=runF Genvelope0 Tryz.f12 F [.p (.str ([]:List UInt8))]
theorem Fenvelope0_eq (F:Nat) :Fenvelope0 F =need (firstok ([]:List (List UInt8×List UInt8)) ([102,114,111,109]:List UInt8)) (need (firstok ([]:List (List UInt8×List UInt8)) ([100,97,116,101]:List UInt8)) (need (firstok ([]:List (List UInt8×List UInt8)) ([115,117,98,106,101,99,116]:List UInt8)) (need (firstok ([]:List (List UInt8×List UInt8)) ([115,101,110,100,101,114]:List UInt8)) (need (firstok ([]:List (List UInt8×List UInt8)) ([114,101,112,108,121,45,116,111]:List UInt8)) (need (firstok ([]:List (List UInt8×List UInt8)) ([116,111]:List UInt8)) (need (firstok ([]:List (List UInt8×List UInt8)) ([99,99]:List UInt8)) (need (firstok ([]:List (List UInt8×List UInt8)) ([98,99,99]:List UInt8)) (need (firstok ([]:List (List UInt8×List UInt8)) ([105,110,45,114,101,112,108,121,45,116,111]:List UInt8)) (need (firstok ([]:List (List UInt8×List UInt8)) ([109,101,115,115,97,103,101,45,105,100]:List UInt8)) (need (joinok [([78,73,76]:List UInt8),([78,73,76]:List UInt8),([78,73,76]:List UInt8),([78,73,76]:List UInt8),([78,73,76]:List UInt8),([78,73,76]:List UInt8),([78,73,76]:List UInt8),([78,73,76]:List UInt8),([78,73,76]:List UInt8),([78,73,76]:List UInt8)] ([32]:List UInt8)) (need (lenok (([40]:List UInt8).length+(joinS ([32]:List UInt8) [([78,73,76]:List UInt8),([78,73,76]:List UInt8),([78,73,76]:List UInt8),([78,73,76]:List UInt8),([78,73,76]:List UInt8),([78,73,76]:List UInt8),([78,73,76]:List UInt8),([78,73,76]:List UInt8),([78,73,76]:List UInt8),([78,73,76]:List UInt8)]).length)) (need (lenok ((([40]:List UInt8)++(joinS ([32]:List UInt8) [([78,73,76]:List UInt8),([78,73,76]:List UInt8),([78,73,76]:List UInt8),([78,73,76]:List UInt8),([78,73,76]:List UInt8),([78,73,76]:List UInt8),([78,73,76]:List UInt8),([78,73,76]:List UInt8),([78,73,76]:List UInt8),([78,73,76]:List UInt8)])).length+([41]:List UInt8).length)) (some (.p (.str ((([40]:List UInt8)++(joinS ([32]:List UInt8) [([78,73,76]:List UInt8),([78,73,76]:List UInt8),([78,73,76]:List UInt8),([78,73,76]:List UInt8),([78,73,76]:List UInt8),([78,73,76]:List UInt8),([78,73,76]:List UInt8),([78,73,76]:List UInt8),([78,73,76]:List UInt8),([78,73,76]:List UInt8)]))++([41]:List UInt8))),[])))))))))))))):=by kernel_rfl
theorem fn_envelope0 (F:Nat)  (r:AV) (h:(∃ M vs,ARels γ0 M [.p (.str ([]:List UInt8))] vs)->Fenvelope0 F =some (r,[])):FnP Tryz.prog 12 [.p (.str ([]:List UInt8))] r:=
 FnP_run Genvelope0 F rfl (EnvOk_mk (l:=[(24,sp_fields0),(25,sp_addresses0),(26,sp_envor0),(27,sp_joinl),(28,sp_nstring0)]) ⟨ok_fields0.any,ok_addresses0.any,ok_envor0.any,ok_joinl.any,ok_nstring0.any,trivial⟩) (EnvROk_mk (l:=[]) trivial) (Checked.mixed Tryz.checked) (fn:=Tryz.f12) (by kernel_rfl) (by kernel_rfl) rfl h
def envE:List UInt8:=[40,78,73,76,32,78,73,76,32,78,73,76,32,78,73,76,32,78,73,76,32,78,73,76,32,78,73,76,32,78,73,76,32,78,73,76,32,78,73,76,41]
def sp_envelope0:List AV->Option (AV×Option Prop)
 | [.p (.str [])]=>some (.p (.str envE),none)
 | _=>none
theorem fok0 (n:List UInt8) (h:n.length<=100):firstok [] n:=⟨by omega,(fun x hx=>by cases hx),by simp⟩
theorem ok_envelope0:SpecOk Tryz.prog 12 sp_envelope0:=by
 intro zs r ok he hok
 unfold sp_envelope0 at he
 split at he
 .cases he
  refine ⟨by kernel_rfl,fn_envelope0 0 _ fun _=>?_⟩
  rw [Fenvelope0_eq]
  refine need_mk (fok0 _ (by simp)) (need_mk (fok0 _ (by simp)) (need_mk (fok0 _ (by simp)) (need_mk (fok0 _ (by simp)) (need_mk (fok0 _ (by simp)) (need_mk (fok0 _ (by simp)) (need_mk (fok0 _ (by simp)) (need_mk (fok0 _ (by simp)) (need_mk (fok0 _ (by simp)) (need_mk (fok0 _ (by simp)) (need_mk ⟨by simp,by simp,by simp,by decide⟩ (need_mk ?_ (need_mk ?_ rfl))))))))))))
  .rw [show (joinS ([32]:List UInt8) _).length=39 from rfl]; simp
  .exact (by omega:(41:Nat)<=9223372036854775807)
 .cases he
end Go.Proofs.YtoanepondbagcaaGreatDoor
namespace Go.Proofs.YtoanepondbagcaaGreatDoor
open Go Go.Am
set_option linter.unusedVariables false
def shownS (s:List UInt8):List UInt8:=if validS s=true then s else bytesS s
noncomputable def cshown:Code:=bodyOf Tryz.f32
noncomputable def Gshown:Cfg:=⟨Tryz.prog,mkEnv [(62,sp_uvalid),(63,sp_Put)],mkEnvR [(48,sp_wstr),(51,sp_bstr)],21,[],[([0,1,0,1,1,1],⟨[0,3,9,10],[⟨.slot 3,3,.cells []⟩,⟨.cell 3 1,4001,(.barr 5 false [])⟩]⟩)],[([1,0,0,1,1,0,0,1,0,1,1,1],[5]),([0,1,1,1,1],[0])]⟩
noncomputable def Bshown_1 (F f1:Nat) (s:List UInt8) (vi1 vi2:Int) (vb3:List UInt8):Option Ans:=runR Gshown cshown (kP Tryz.prog Tryz.f32.results.toList) F [] [1,1,1,0,1,0] f1 [(0,.p (.str s)),(3,.ref 3 0),(9,.p (.int .i64 vi1)),(10,.p (.int .i64 vi2))] [(3,.bldr 61 (.arr 4001)),(4001,.barr 5 false vb3)]
noncomputable def Fshown (F:Nat) (s:List UInt8):Option Ans:=runF Gshown Tryz.f32 F [.p (.str s)]
theorem Bshown_1_eq (F f1:Nat) (s:List UInt8) (vi1 vi2:Int) (vb3:List UInt8):Bshown_1 F (f1+1) s vi1 vi2 vb3=cond (decide (vi2 < vi1)) (need (0<=vi2/\vi2 < (s.length:Int)) (need (-1000000000000<=((s.getD (vi2).toNat 0).toNat:Int)/\((s.getD (vi2).toNat 0).toNat:Int)<=1000000000000) (need (vb3.length+(putS ((s.getD (vi2).toNat 0).toNat:Int)).length<=140737488355328) (need (i64ok (vi2+(1:Int))) (Bshown_1 F f1 s vi1 (vi2+(1:Int)) (vb3++(putS ((s.getD (vi2).toNat 0).toNat:Int)))))))) (some (.p (.str vb3),[])):=by kernel_rfl
theorem Fshown_eq (F:Nat) (s:List UInt8):Fshown F s=need (s.length<=1000000) (cond (validS s) (some (.p (.str s),[])) (Bshown_1 F F s (s.length:Int) (0:Int) [])):=by kernel_rfl
theorem fn_shown (F:Nat) (s:List UInt8) (r:AV) (h:(∃ M vs,ARels γ0 M [.p (.str s)] vs)->Fshown F s=some (r,[])):FnP Tryz.prog 32 [.p (.str s)] r:=
 FnP_run Gshown F rfl (EnvOk_mk (l:=[(62,sp_uvalid),(63,sp_Put)]) ⟨ok_uvalid.any,ok_Put.any,trivial⟩) (EnvROk_mk (l:=[(48,sp_wstr),(51,sp_bstr)]) ⟨ok_wstr,ok_bstr,trivial⟩) (Checked.mixed Tryz.checked) (fn:=Tryz.f32) (by kernel_rfl) (by kernel_rfl) rfl h
theorem Bshown_spec (F:Nat) (s:List UInt8) (hs:s.length<=1000000):∀ (r:List UInt8) (f i:Nat) (acc:List UInt8),s.drop i=r->acc.length<=4 * i->r.length < f->i<=s.length->
 Bshown_1 F f s (s.length:Int) (i:Int) acc=some (.p (.str (acc++bytesS r)),[]):=by
 intro r
 induction r with
 | nil=>
  intro f i acc hd ha hf hi
  have:i=s.length:=by have:=congrArg List.length hd; simp at this; omega
  cases f with
  | zero=>omega
  | succ f=>
   rw [Bshown_1_eq]
   refine cond_f (by first | omega | (unfold i64ok; omega) | (simp only [List.length_cons,List.length_nil]; omega) | (simp; omega) | simp) ?_
   simp [bytesS]
 | cons c r ih=>
  intro f i acc hd ha hf hi
  obtain ⟨h1,h2,h3⟩:=drop_cons hd
  cases f with
  | zero=>omega
  | succ f=>
   have hlt:=c.toNat_lt
   have hl:=putS_len (c.toNat:Int)
   rw [Bshown_1_eq]
   refine cond_t (by first | omega | (unfold i64ok; omega) | (simp only [List.length_cons,List.length_nil]; omega) | (simp; omega) | simp) ?_
   refine need_mk (by first | omega | (unfold i64ok; omega) | (simp only [List.length_cons,List.length_nil]; omega) | (simp; omega) | simp) ?_
   rw [Int.toNat_natCast,h1]
   refine need_mk (by first | omega | (unfold i64ok; omega) | (simp only [List.length_cons,List.length_nil]; omega) | (simp; omega) | simp) ?_
   refine need_mk (by omega) ?_
   refine need_mk (by first | omega | (unfold i64ok; omega) | (simp only [List.length_cons,List.length_nil]; omega) | (simp; omega) | simp) ?_
   have e:(i:Int)+1=((i+1:Nat):Int):=by omega
   rw [e,ih f (i+1) _ h2 (by simp; omega) (by simp at hf; omega) (by omega)]
   simp [bytesS]
theorem shown_eq (s:List UInt8) (hs:s.length<=1000000):Fshown (s.length+1) s=some (.p (.str (shownS s)),[]):=by
 rw [Fshown_eq,shownS]
 refine need_mk hs ?_
 cases hv:validS s with
 | true=>rfl
 | false=>exact Bshown_spec _ s hs s (s.length+1) 0 [] rfl (by simp) (by omega) (by omega)
def sp_shown:List AV->Option (AV×Option Prop)
 | [.p (.str s)]=>some (.p (.str (shownS s)),some (s.length<=1000000))
 | _=>none
theorem ok_shown:SpecOk Tryz.prog 32 sp_shown:=by
 intro zs r ok he hok
 unfold sp_shown at he
 split at he
 .cases he; exact ⟨by kernel_rfl,fn_shown (_) _ _ fun hx=>shown_eq _ hok⟩
 .cases he
noncomputable def Gfields:Cfg:=⟨Tryz.prog,mkEnv [(46,sp_split)],mkEnvR [],10,[],[],[]⟩
noncomputable def Ffields (F:Nat) (s:List UInt8):Option Ans:=runF Gfields Tryz.f24 F [.p (.str s)]
theorem Ffields_eq (F:Nat) (s:List UInt8):Ffields F s=need (s.length<=1000000) (some (.tup [.p (.list 2 (.dat (.pair .str .str) ((splitS s (0:Int) (s.length:Int)).1))),.p (.int .i64 ((splitS s (0:Int) (s.length:Int)).2))],[])):=by kernel_rfl
theorem fn_fields (F:Nat) (s:List UInt8) (r:AV) (h:(∃ M vs,ARels γ0 M [.p (.str s)] vs)->Ffields F s=some (r,[])):FnP Tryz.prog 24 [.p (.str s)] r:=
 FnP_run Gfields F rfl (EnvOk_mk (l:=[(46,sp_split)]) ⟨ok_split.any,trivial⟩) (EnvROk_mk (l:=[]) trivial) (Checked.mixed Tryz.checked) (fn:=Tryz.f24) (by kernel_rfl) (by kernel_rfl) rfl h
theorem fields_eq (s:List UInt8) (hs:s.length<=1000000):Ffields 0 s=some (.tup [.p (.list 2 (.dat (.pair .str .str) (splitS s 0 (s.length:Int)).1)),.p (.int .i64 (splitS s 0 (s.length:Int)).2)],[]):=by
 rw [Ffields_eq]; exact need_mk hs rfl
def sp_fields:List AV->Option (AV×Option Prop)
 | [.p (.str s)]=>some (.tup [.p (.list 2 (.dat (.pair .str .str) ((splitS s 0 (s.length:Int)).1))),.p (.int .i64 ((splitS s 0 (s.length:Int)).2))],some (s.length<=1000000))
 | _=>none
theorem ok_fields:SpecOk Tryz.prog 24 sp_fields:=by
 intro zs r ok he hok
 unfold sp_fields at he
 split at he
 .cases he; exact ⟨by kernel_rfl,fn_fields 0 _ _ fun hx=>fields_eq _ hok⟩
 .cases he
end Go.Proofs.YtoanepondbagcaaGreatDoor
