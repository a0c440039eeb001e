/-
  Lifted functions, and facts about them.
-/
import Derived.Test.YtoanepondbagcaaGreatDoorRows
import Derived.Test.YtoanepondbagcaaGreatDoorAmC
import Derived.Test.YtoanepondbagcaaGreatDoorC01
import Derived.Test.YtoanepondbagcaaGreatDoorC04
import Derived.Test.YtoanepondbagcaaGreatDoorC02
namespace Go.Proofs.YtoanepondbagcaaGreatDoor
open Go Go.Am
set_option linter.unusedVariables false
def firstS:List (List UInt8×List UInt8)->List UInt8->List UInt8×Bool
 | [],_=>([],false)
 | x::r,n=>if foldS x.1=foldS n then (x.2,true) else firstS r n
abbrev firstok (l:List (List UInt8×List UInt8)) (n:List UInt8):Prop:=n.length<=140737488355328/\(∀ x ∈ l,x.1.length<=140737488355328)/\l.length<=1000000000000
def madeF (s:List UInt8):(List UInt8×List UInt8)×Bool:=if (oneF s).2=true then ((oneF s).1,true) else (([],[]),false)
noncomputable def cfirst:Code:=bodyOf Tryz.f31
noncomputable def Gfirst:Cfg:=⟨Tryz.prog,mkEnv [(61,sp_Fold)],mkEnvR [],23,[],[([0,1,0,1],⟨[1,8,9,10],[]⟩)],[]⟩
noncomputable def Bfirst_1 (F f1:Nat) (n:List UInt8) (l:List (List UInt8×List UInt8)) (vi1 vi2:Int):Option Ans:=runR Gfirst cfirst (kP Tryz.prog Tryz.f31.results.toList) F [] [1,0,1,0] f1 [(1,.p (.str n)),(8,.p (.list 2 (.dat (.pair .str .str) l))),(9,.p (.int .i64 vi1)),(10,.p (.int .i64 vi2))] []
noncomputable def Ffirst (F:Nat) (l:List (List UInt8×List UInt8)) (n:List UInt8):Option Ans:=runF Gfirst Tryz.f31 F [.p (.list 2 (.dat (.pair .str .str) l)),.p (.str n)]
theorem Bfirst_1_eq (F f1:Nat) (n:List UInt8) (l:List (List UInt8×List UInt8)) (vi1 vi2:Int):Bfirst_1 F (f1+1) n l vi1 vi2=cond (decide (vi2 < vi1)) (need (0<=vi2/\vi2 < (l.length:Int)) (need (((l.getD (vi2).toNat ([],[])).1).length<=140737488355328) (need (n.length<=140737488355328) (cond ((foldS ((l.getD (vi2).toNat ([],[])).1))==(foldS n)) (some (.tup [.p (.str ((l.getD (vi2).toNat ([],[])).2)),.p (.bool true)],[])) (need (i64ok (vi2+(1:Int))) (Bfirst_1 F f1 n l vi1 (vi2+(1:Int)))))))) (some (.tup [.p (.str ([]:List UInt8)),.p (.bool false)],[])):=by kernel_rfl
theorem Ffirst_eq (F:Nat) (l:List (List UInt8×List UInt8)) (n:List UInt8):Ffirst F l n=Bfirst_1 F F n l (l.length:Int) (0:Int):=by kernel_rfl
theorem fn_first (F:Nat) (l:List (List UInt8×List UInt8)) (n:List UInt8) (r:AV) (h:(∃ M vs,ARels γ0 M [.p (.list 2 (.dat (.pair .str .str) l)),.p (.str n)] vs)->Ffirst F l n=some (r,[])):FnP Tryz.prog 31 [.p (.list 2 (.dat (.pair .str .str) l)),.p (.str n)] r:=
 FnP_run Gfirst F rfl (EnvOk_mk (l:=[(61,sp_Fold)]) ⟨ok_Fold.any,trivial⟩) (EnvROk_mk (l:=[]) trivial) (Checked.mixed Tryz.checked) (fn:=Tryz.f31) (by kernel_rfl) (by kernel_rfl) rfl h
theorem Bfirst_spec (F:Nat) (l:List (List UInt8×List UInt8)) (n:List UInt8) (hk:firstok l n):∀ (r:List (List UInt8×List UInt8)) (f i:Nat),l.drop i=r->r.length < f->i<=l.length->
 Bfirst_1 F f n l (l.length:Int) (i:Int)=some (.tup [.p (.str (firstS r n).1),.p (.bool (firstS r n).2)],[]):=by
 intro r
 induction r with
 | nil=>
  intro f i hd hf hi
  have:i=l.length:=by have:=congrArg List.length hd; simp at this; omega
  cases f with
  | zero=>omega
  | succ f=>rw [Bfirst_1_eq]; exact cond_f (by simp; omega) rfl
 | cons c r ih=>
  intro f i hd hf hi
  obtain ⟨h1,h2,h3⟩:=dropG hd ([],[])
  cases f with
  | zero=>omega
  | succ f=>
   rw [Bfirst_1_eq,Int.toNat_natCast,h1]
   refine cond_t (by simp; omega) (need_mk ⟨by omega,by omega⟩ (need_mk (hk.2.1 c (by rw [<-h1]; exact getD_mem h3 _)) (need_mk hk.1 ?_)))
   rw [firstS]
   by_cases he:foldS c.1=foldS n
   .rw [if_pos he]; exact cond_t (by rw [he]; exact beq_self_eq_true _) rfl
   .rw [if_neg he]
    refine cond_f (by simpa using he) (need_mk (by have:=hk.2.2; unfold i64ok; omega) ?_)
    rw [show (i:Int)+1=((i+1:Nat):Int) by omega]
    exact ih f (i+1) h2 (by simp at hf; omega) (by omega)
theorem first_eq (l:List (List UInt8×List UInt8)) (n:List UInt8) (hk:firstok l n):Ffirst (l.length+1) l n=some (.tup [.p (.str (firstS l n).1),.p (.bool (firstS l n).2)],[]):=by
 rw [Ffirst_eq]
 exact Bfirst_spec _ l n hk l (l.length+1) 0 rfl (by omega) (by omega)
def sp_first:List AV->Option (AV×Option Prop)
 | [.p (.list 2 (.dat (.pair .str .str) l)),.p (.str n)]=>some (.tup [.p (.str ((firstS l n).1)),.p (.bool ((firstS l n).2))],some (firstok l n))
 | _=>none
theorem ok_first:SpecOk Tryz.prog 31 sp_first:=by
 intro zs r ok he hok
 unfold sp_first at he
 split at he
 .cases he; exact ⟨by kernel_rfl,fn_first (_) _ _ _ fun hx=>first_eq _ _ hok⟩
 .cases he
noncomputable def cr7first:Code:=bodyOf Tryz.f109
noncomputable def Gr7first:Cfg:=⟨Tryz.prog,mkEnv [(112,sp_rFold)],mkEnvR [],27,[],[([0,1,0,1],⟨[0,1,6],[]⟩)],[]⟩
noncomputable def Br7first_1 (F f1:Nat) (l:List (List UInt8×List UInt8)) (n:List UInt8) (vi1:Int):Option Ans:=runR Gr7first cr7first (kP Tryz.prog Tryz.f109.results.toList) F [] [1,0,1,0] f1 [(0,.p (.list 2 (.dat (.pair .str .str) l))),(1,.p (.str n)),(6,.p (.int .i64 vi1))] []
noncomputable def Fr7first (F:Nat) (l:List (List UInt8×List UInt8)) (n:List UInt8):Option Ans:=runF Gr7first Tryz.f109 F [.p (.list 2 (.dat (.pair .str .str) l)),.p (.str n)]
theorem Br7first_1_eq (F f1:Nat) (l:List (List UInt8×List UInt8)) (n:List UInt8) (vi1:Int):Br7first_1 F (f1+1) l n vi1=cond (decide (vi1 < (l.length:Int))) (need (0<=vi1/\vi1 < (l.length:Int)) (need (((l.getD (vi1).toNat ([],[])).1).length<=140737488355328) (need (n.length<=140737488355328) (cond ((foldS ((l.getD (vi1).toNat ([],[])).1))==(foldS n)) (need (0<=vi1/\vi1 < (l.length:Int)) (some (.tup [.p (.str ((l.getD (vi1).toNat ([],[])).2)),.p (.bool true)],[]))) (need (i64ok (vi1+(1:Int))) (Br7first_1 F f1 l n (vi1+(1:Int)))))))) (some (.tup [.p (.str ([]:List UInt8)),.p (.bool false)],[])):=by kernel_rfl
theorem Fr7first_eq (F:Nat) (l:List (List UInt8×List UInt8)) (n:List UInt8):Fr7first F l n=Br7first_1 F F l n (0:Int):=by kernel_rfl
theorem fn_r7first (F:Nat) (l:List (List UInt8×List UInt8)) (n:List UInt8) (r:AV) (h:(∃ M vs,ARels γ0 M [.p (.list 2 (.dat (.pair .str .str) l)),.p (.str n)] vs)->Fr7first F l n=some (r,[])):FnP Tryz.prog 109 [.p (.list 2 (.dat (.pair .str .str) l)),.p (.str n)] r:=
 FnP_run Gr7first F rfl (EnvOk_mk (l:=[(112,sp_rFold)]) ⟨ok_rFold.any,trivial⟩) (EnvROk_mk (l:=[]) trivial) (Checked.mixed Tryz.checked) (fn:=Tryz.f109) (by kernel_rfl) (by kernel_rfl) rfl h
theorem Br7first_spec (F:Nat) (l:List (List UInt8×List UInt8)) (n:List UInt8) (hk:firstok l n):∀ (r:List (List UInt8×List UInt8)) (f i:Nat),l.drop i=r->r.length < f->i<=l.length->
 Br7first_1 F f l n (i:Int)=some (.tup [.p (.str (firstS r n).1),.p (.bool (firstS r n).2)],[]):=by
 intro r
 induction r with
 | nil=>
  intro f i hd hf hi
  have:i=l.length:=by have:=congrArg List.length hd; simp at this; omega
  cases f with
  | zero=>omega
  | succ f=>rw [Br7first_1_eq]; exact cond_f (by simp; omega) rfl
 | cons c r ih=>
  intro f i hd hf hi
  obtain ⟨h1,h2,h3⟩:=dropG hd ([],[])
  cases f with
  | zero=>omega
  | succ f=>
   rw [Br7first_1_eq,Int.toNat_natCast,h1]
   refine cond_t (by simp; omega) (need_mk ⟨by omega,by omega⟩ (need_mk (hk.2.1 c (by rw [<-h1]; exact getD_mem h3 _)) (need_mk hk.1 ?_)))
   rw [firstS]
   by_cases he:foldS c.1=foldS n
   .rw [if_pos he]; exact cond_t (by rw [he]; exact beq_self_eq_true _) (need_mk ⟨by omega,by omega⟩ rfl)
   .rw [if_neg he]
    refine cond_f (by simpa using he) (need_mk (by have:=hk.2.2; unfold i64ok; omega) ?_)
    rw [show (i:Int)+1=((i+1:Nat):Int) by omega]
    exact ih f (i+1) h2 (by simp at hf; omega) (by omega)
theorem r7first_eq (l:List (List UInt8×List UInt8)) (n:List UInt8) (hk:firstok l n):Fr7first (l.length+1) l n=some (.tup [.p (.str (firstS l n).1),.p (.bool (firstS l n).2)],[]):=by
 rw [Fr7first_eq]
 exact Br7first_spec _ l n hk l (l.length+1) 0 rfl (by omega) (by omega)
def sp_r7first:List AV->Option (AV×Option Prop)
 | [.p (.list 2 (.dat (.pair .str .str) l)),.p (.str n)]=>some (.tup [.p (.str ((firstS l n).1)),.p (.bool ((firstS l n).2))],some (firstok l n))
 | _=>none
theorem ok_r7first:SpecOk Tryz.prog 109 sp_r7first:=by
 intro zs r ok he hok
 unfold sp_r7first at he
 split at he
 .cases he; exact ⟨by kernel_rfl,fn_r7first (_) _ _ _ fun hx=>r7first_eq _ _ hok⟩
 .cases he
theorem dW_snoc (p:UInt8->Bool) (l:List UInt8) (c:UInt8):(l++[c]).dropWhile p=if l.dropWhile p=[] then [c].dropWhile p else l.dropWhile p++[c]:=by
 rw [List.dropWhile_append]
 cases h:l.dropWhile p with
 | nil=>simp
 | cons a b=>simp
theorem trim_comm (p:UInt8->Bool):∀ s:List UInt8,(((s.dropWhile p).reverse).dropWhile p).reverse=((s.reverse.dropWhile p).reverse).dropWhile p
 | []=>rfl
 | c::r=>by
  rw [List.reverse_cons,dW_snoc]
  cases hc:p c with
  | true=>
   rw [List.dropWhile_cons,if_pos hc,trim_comm p r]
   split
   .rename_i h
    rw [h]; simp [hc]
   .rw [List.reverse_append]
    simp [hc]
  | false=>
   rw [List.dropWhile_cons,if_neg (by rw [hc]; simp),List.reverse_cons,dW_snoc]
   split
   .simp [hc]
   .simp [hc]
theorem isBl2_eq (c:UInt8):isBl2 c=(c==32||c==9):=by
 unfold isBl2
 rw [List.contains_cons,List.contains_cons]
 simp
noncomputable def cr7trim:Code:=bodyOf Tryz.f108
noncomputable def Gr7trim:Cfg:=⟨Tryz.prog,mkEnv [],mkEnvR [],41,[],[([0,0,1],⟨[0],[]⟩),([1,0,0,0,0,1],⟨[0,14],[]⟩),([0,0,1,1],⟨[0],[]⟩),([1,0,0,0,0,1,1],⟨[0,34],[]⟩)],[]⟩
noncomputable def Br7trim_1 (F f1:Nat) (vs1:List UInt8):Option Ans:=runR Gr7trim cr7trim (kP Tryz.prog Tryz.f108.results.toList) F [] [1,0,0] f1 [(0,.p (.str vs1))] []
noncomputable def Br7trim_2 (F f1:Nat) (vs1:List UInt8) (vc2:Bool):Option Ans:=runB Gr7trim cr7trim (kP Tryz.prog Tryz.f108.results.toList) F [f1] [1,0,0,0,0,1] [(0,.p (.str vs1)),(14,.p (.bool vc2))] []
noncomputable def Br7trim_3 (F f2:Nat) (vs3:List UInt8):Option Ans:=runR Gr7trim cr7trim (kP Tryz.prog Tryz.f108.results.toList) F [] [1,1,0,0] f2 [(0,.p (.str vs3))] []
noncomputable def Br7trim_4 (F f2:Nat) (vs3:List UInt8) (vc4:Bool):Option Ans:=runB Gr7trim cr7trim (kP Tryz.prog Tryz.f108.results.toList) F [f2] [1,1,0,0,0,0,1] [(0,.p (.str vs3)),(34,.p (.bool vc4))] []
noncomputable def Fr7trim (F:Nat) (s:List UInt8):Option Ans:=runF Gr7trim Tryz.f108 F [.p (.str s)]
theorem Br7trim_1_eq (F f1:Nat) (vs1:List UInt8):Br7trim_1 F (f1+1) vs1=need ((vs1 != ([]:List UInt8))=true->0<=(0:Int)/\(0:Int) < (vs1.length:Int)) (need (((vs1 != ([]:List UInt8))&&(!(((vs1.getD ((0:Int)).toNat 0).toNat:Int)==(32:Int))))=true->0<=(0:Int)/\(0:Int) < (vs1.length:Int)) (Br7trim_2 F f1 vs1 ((vs1 != ([]:List UInt8))&&((((vs1.getD ((0:Int)).toNat 0).toNat:Int)==(32:Int))||(((vs1.getD ((0:Int)).toNat 0).toNat:Int)==(9:Int)))))):=
 Eq.trans (show Br7trim_1 F (f1+1) vs1=need ((vs1 != ([]:List UInt8))=true->(vs1 != ([]:List UInt8))=true) (need ((vs1 != ([]:List UInt8))=true->0<=(0:Int)/\(0:Int) < (vs1.length:Int)) (need ((vs1 != ([]:List UInt8))=true->(vs1 != ([]:List UInt8))=true) (need ((vs1 != ([]:List UInt8))=true->(vs1 != ([]:List UInt8))=true) (need (((vs1 != ([]:List UInt8))&&(!(((vs1.getD ((0:Int)).toNat 0).toNat:Int)==(32:Int))))=true->((vs1 != ([]:List UInt8))&&(!(((vs1.getD ((0:Int)).toNat 0).toNat:Int)==(32:Int))))=true) (need (((vs1 != ([]:List UInt8))&&(!(((vs1.getD ((0:Int)).toNat 0).toNat:Int)==(32:Int))))=true->0<=(0:Int)/\(0:Int) < (vs1.length:Int)) (need (((vs1 != ([]:List UInt8))&&(!(((vs1.getD ((0:Int)).toNat 0).toNat:Int)==(32:Int))))=true->((vs1 != ([]:List UInt8))&&(!(((vs1.getD ((0:Int)).toNat 0).toNat:Int)==(32:Int))))=true) (need ((vs1 != ([]:List UInt8))=true->(vs1 != ([]:List UInt8))=true) (need ((vs1 != ([]:List UInt8))=true->(((vs1.getD ((0:Int)).toNat 0).toNat:Int)==(32:Int))=false->((vs1 != ([]:List UInt8))&&(!(((vs1.getD ((0:Int)).toNat 0).toNat:Int)==(32:Int))))=true) (need ((vs1 != ([]:List UInt8))=true->(vs1 != ([]:List UInt8))=true) (Br7trim_2 F f1 vs1 ((vs1 != ([]:List UInt8))&&((((vs1.getD ((0:Int)).toNat 0).toNat:Int)==(32:Int))||(((vs1.getD ((0:Int)).toNat 0).toNat:Int)==(9:Int)))))))))))))) by kernel_rfl) (need_strike (show (vs1 != ([]:List UInt8))=true->(vs1 != ([]:List UInt8))=true from (fun q0=>q0)) (need_congr (need_strike (show (vs1 != ([]:List UInt8))=true->(vs1 != ([]:List UInt8))=true from (fun q0=>q0)) (need_strike (show (vs1 != ([]:List UInt8))=true->(vs1 != ([]:List UInt8))=true from (fun q0=>q0)) (need_strike (show ((vs1 != ([]:List UInt8))&&(!(((vs1.getD ((0:Int)).toNat 0).toNat:Int)==(32:Int))))=true->((vs1 != ([]:List UInt8))&&(!(((vs1.getD ((0:Int)).toNat 0).toNat:Int)==(32:Int))))=true from (fun q0=>q0)) (need_congr (need_strike (show ((vs1 != ([]:List UInt8))&&(!(((vs1.getD ((0:Int)).toNat 0).toNat:Int)==(32:Int))))=true->((vs1 != ([]:List UInt8))&&(!(((vs1.getD ((0:Int)).toNat 0).toNat:Int)==(32:Int))))=true from (fun q0=>q0)) (need_strike (show (vs1 != ([]:List UInt8))=true->(vs1 != ([]:List UInt8))=true from (fun q0=>q0)) (need_strike (show (vs1 != ([]:List UInt8))=true->(((vs1.getD ((0:Int)).toNat 0).toNat:Int)==(32:Int))=false->((vs1 != ([]:List UInt8))&&(!(((vs1.getD ((0:Int)).toNat 0).toNat:Int)==(32:Int))))=true from (fun q0 q1=>(and_mk q0 (not_mk q1)))) (need_strike (show (vs1 != ([]:List UInt8))=true->(vs1 != ([]:List UInt8))=true from (fun q0=>q0)) (rfl)))))))))))
theorem Br7trim_2_eq (F f1:Nat) (vs1:List UInt8) (vc2:Bool):Br7trim_2 F f1 vs1 vc2=cond (vc2) (need (0<=(1:Int)/\(1:Int)<=(vs1.length:Int)) (Br7trim_1 F f1 (vs1.drop ((1:Int)).toNat))) (Br7trim_3 F F vs1):=by kernel_rfl
theorem Br7trim_3_eq (F f2:Nat) (vs3:List UInt8):Br7trim_3 F (f2+1) vs3=need ((vs3 != ([]:List UInt8))=true->i64ok ((vs3.length:Int) - (1:Int))) (need ((vs3 != ([]:List UInt8))=true->0<=((vs3.length:Int) - (1:Int))/\((vs3.length:Int) - (1:Int)) < (vs3.length:Int)) (need (((vs3 != ([]:List UInt8))&&(!(((vs3.getD ((vs3.length:Int) - (1:Int)).toNat 0).toNat:Int)==(32:Int))))=true->i64ok ((vs3.length:Int) - (1:Int))) (need (((vs3 != ([]:List UInt8))&&(!(((vs3.getD ((vs3.length:Int) - (1:Int)).toNat 0).toNat:Int)==(32:Int))))=true->0<=((vs3.length:Int) - (1:Int))/\((vs3.length:Int) - (1:Int)) < (vs3.length:Int)) (Br7trim_4 F f2 vs3 ((vs3 != ([]:List UInt8))&&((((vs3.getD ((vs3.length:Int) - (1:Int)).toNat 0).toNat:Int)==(32:Int))||(((vs3.getD ((vs3.length:Int) - (1:Int)).toNat 0).toNat:Int)==(9:Int)))))))):=
 Eq.trans (show Br7trim_3 F (f2+1) vs3=need ((vs3 != ([]:List UInt8))=true->(vs3 != ([]:List UInt8))=true) (need ((vs3 != ([]:List UInt8))=true->(vs3 != ([]:List UInt8))=true) (need ((vs3 != ([]:List UInt8))=true->i64ok ((vs3.length:Int) - (1:Int))) (need ((vs3 != ([]:List UInt8))=true->(vs3 != ([]:List UInt8))=true) (need ((vs3 != ([]:List UInt8))=true->(vs3 != ([]:List UInt8))=true) (need ((vs3 != ([]:List UInt8))=true->0<=((vs3.length:Int) - (1:Int))/\((vs3.length:Int) - (1:Int)) < (vs3.length:Int)) (need ((vs3 != ([]:List UInt8))=true->(vs3 != ([]:List UInt8))=true) (need ((vs3 != ([]:List UInt8))=true->(vs3 != ([]:List UInt8))=true) (need (((vs3 != ([]:List UInt8))&&(!(((vs3.getD ((vs3.length:Int) - (1:Int)).toNat 0).toNat:Int)==(32:Int))))=true->((vs3 != ([]:List UInt8))&&(!(((vs3.getD ((vs3.length:Int) - (1:Int)).toNat 0).toNat:Int)==(32:Int))))=true) (need (((vs3 != ([]:List UInt8))&&(!(((vs3.getD ((vs3.length:Int) - (1:Int)).toNat 0).toNat:Int)==(32:Int))))=true->((vs3 != ([]:List UInt8))&&(!(((vs3.getD ((vs3.length:Int) - (1:Int)).toNat 0).toNat:Int)==(32:Int))))=true) (need (((vs3 != ([]:List UInt8))&&(!(((vs3.getD ((vs3.length:Int) - (1:Int)).toNat 0).toNat:Int)==(32:Int))))=true->i64ok ((vs3.length:Int) - (1:Int))) (need (((vs3 != ([]:List UInt8))&&(!(((vs3.getD ((vs3.length:Int) - (1:Int)).toNat 0).toNat:Int)==(32:Int))))=true->((vs3 != ([]:List UInt8))&&(!(((vs3.getD ((vs3.length:Int) - (1:Int)).toNat 0).toNat:Int)==(32:Int))))=true) (need (((vs3 != ([]:List UInt8))&&(!(((vs3.getD ((vs3.length:Int) - (1:Int)).toNat 0).toNat:Int)==(32:Int))))=true->((vs3 != ([]:List UInt8))&&(!(((vs3.getD ((vs3.length:Int) - (1:Int)).toNat 0).toNat:Int)==(32:Int))))=true) (need (((vs3 != ([]:List UInt8))&&(!(((vs3.getD ((vs3.length:Int) - (1:Int)).toNat 0).toNat:Int)==(32:Int))))=true->0<=((vs3.length:Int) - (1:Int))/\((vs3.length:Int) - (1:Int)) < (vs3.length:Int)) (need (((vs3 != ([]:List UInt8))&&(!(((vs3.getD ((vs3.length:Int) - (1:Int)).toNat 0).toNat:Int)==(32:Int))))=true->((vs3 != ([]:List UInt8))&&(!(((vs3.getD ((vs3.length:Int) - (1:Int)).toNat 0).toNat:Int)==(32:Int))))=true) (need ((vs3 != ([]:List UInt8))=true->(vs3 != ([]:List UInt8))=true) (need ((vs3 != ([]:List UInt8))=true->(((vs3.getD ((vs3.length:Int) - (1:Int)).toNat 0).toNat:Int)==(32:Int))=false->((vs3 != ([]:List UInt8))&&(!(((vs3.getD ((vs3.length:Int) - (1:Int)).toNat 0).toNat:Int)==(32:Int))))=true) (need ((vs3 != ([]:List UInt8))=true->(vs3 != ([]:List UInt8))=true) (Br7trim_4 F f2 vs3 ((vs3 != ([]:List UInt8))&&((((vs3.getD ((vs3.length:Int) - (1:Int)).toNat 0).toNat:Int)==(32:Int))||(((vs3.getD ((vs3.length:Int) - (1:Int)).toNat 0).toNat:Int)==(9:Int)))))))))))))))))))))) by kernel_rfl) (need_strike (show (vs3 != ([]:List UInt8))=true->(vs3 != ([]:List UInt8))=true from (fun q0=>q0)) (need_strike (show (vs3 != ([]:List UInt8))=true->(vs3 != ([]:List UInt8))=true from (fun q0=>q0)) (need_congr (need_strike (show (vs3 != ([]:List UInt8))=true->(vs3 != ([]:List UInt8))=true from (fun q0=>q0)) (need_strike (show (vs3 != ([]:List UInt8))=true->(vs3 != ([]:List UInt8))=true from (fun q0=>q0)) (need_congr (need_strike (show (vs3 != ([]:List UInt8))=true->(vs3 != ([]:List UInt8))=true from (fun q0=>q0)) (need_strike (show (vs3 != ([]:List UInt8))=true->(vs3 != ([]:List UInt8))=true from (fun q0=>q0)) (need_strike (show ((vs3 != ([]:List UInt8))&&(!(((vs3.getD ((vs3.length:Int) - (1:Int)).toNat 0).toNat:Int)==(32:Int))))=true->((vs3 != ([]:List UInt8))&&(!(((vs3.getD ((vs3.length:Int) - (1:Int)).toNat 0).toNat:Int)==(32:Int))))=true from (fun q0=>q0)) (need_strike (show ((vs3 != ([]:List UInt8))&&(!(((vs3.getD ((vs3.length:Int) - (1:Int)).toNat 0).toNat:Int)==(32:Int))))=true->((vs3 != ([]:List UInt8))&&(!(((vs3.getD ((vs3.length:Int) - (1:Int)).toNat 0).toNat:Int)==(32:Int))))=true from (fun q0=>q0)) (need_congr (need_strike (show ((vs3 != ([]:List UInt8))&&(!(((vs3.getD ((vs3.length:Int) - (1:Int)).toNat 0).toNat:Int)==(32:Int))))=true->((vs3 != ([]:List UInt8))&&(!(((vs3.getD ((vs3.length:Int) - (1:Int)).toNat 0).toNat:Int)==(32:Int))))=true from (fun q0=>q0)) (need_strike (show ((vs3 != ([]:List UInt8))&&(!(((vs3.getD ((vs3.length:Int) - (1:Int)).toNat 0).toNat:Int)==(32:Int))))=true->((vs3 != ([]:List UInt8))&&(!(((vs3.getD ((vs3.length:Int) - (1:Int)).toNat 0).toNat:Int)==(32:Int))))=true from (fun q0=>q0)) (need_congr (need_strike (show ((vs3 != ([]:List UInt8))&&(!(((vs3.getD ((vs3.length:Int) - (1:Int)).toNat 0).toNat:Int)==(32:Int))))=true->((vs3 != ([]:List UInt8))&&(!(((vs3.getD ((vs3.length:Int) - (1:Int)).toNat 0).toNat:Int)==(32:Int))))=true from (fun q0=>q0)) (need_strike (show (vs3 != ([]:List UInt8))=true->(vs3 != ([]:List UInt8))=true from (fun q0=>q0)) (need_strike (show (vs3 != ([]:List UInt8))=true->(((vs3.getD ((vs3.length:Int) - (1:Int)).toNat 0).toNat:Int)==(32:Int))=false->((vs3 != ([]:List UInt8))&&(!(((vs3.getD ((vs3.length:Int) - (1:Int)).toNat 0).toNat:Int)==(32:Int))))=true from (fun q0 q1=>(and_mk q0 (not_mk q1)))) (need_strike (show (vs3 != ([]:List UInt8))=true->(vs3 != ([]:List UInt8))=true from (fun q0=>q0)) (rfl)))))))))))))))))))
theorem Br7trim_4_eq (F f2:Nat) (vs3:List UInt8) (vc4:Bool):Br7trim_4 F f2 vs3 vc4=cond (vc4) (need (i64ok ((vs3.length:Int) - (1:Int))) (need (0<=((vs3.length:Int) - (1:Int))/\((vs3.length:Int) - (1:Int))<=(vs3.length:Int)) (Br7trim_3 F f2 (vs3.take ((vs3.length:Int) - (1:Int)).toNat)))) (some (.p (.str vs3),[])):=by kernel_rfl
theorem Fr7trim_eq (F:Nat) (s:List UInt8):Fr7trim F s=Br7trim_1 F F s:=by kernel_rfl
theorem fn_r7trim (F:Nat) (s:List UInt8) (r:AV) (h:(∃ M vs,ARels γ0 M [.p (.str s)] vs)->Fr7trim F s=some (r,[])):FnP Tryz.prog 108 [.p (.str s)] r:=
 FnP_run Gr7trim F rfl (EnvOk_mk (l:=[]) trivial) (EnvROk_mk (l:=[]) trivial) (Checked.mixed Tryz.checked) (fn:=Tryz.f108) (by kernel_rfl) (by kernel_rfl) rfl h
theorem Br7trim_back (F:Nat):∀ (t:List UInt8) (f:Nat),t.length<=1000000->t.length < f->Br7trim_3 F f t.reverse=some (.p (.str (t.dropWhile isBl2).reverse),[])
 | [],f,_,hf=>by
  cases f with
  | zero=>omega
  | succ f=>rw [Br7trim_3_eq]; refine need_mk (fun h=>by cases h) (need_mk (fun h=>by cases h) (need_mk (fun h=>by cases h) (need_mk (fun h=>by cases h) ?_))); rw [Br7trim_4_eq]; rfl
 | c::r,f,ht,hf=>by
  cases f with
  | zero=>omega
  | succ f=>
   have hl:((c::r).reverse.length:Int) - 1=(r.length:Int):=by simp
   have hg:(c::r).reverse.getD r.length 0=c:=by
    rw [List.reverse_cons,List.getD_eq_getElem?_getD,List.getElem?_append_right (by simp)]; simp
   simp only [List.length_cons] at ht hf
   rw [Br7trim_3_eq,hl,Int.toNat_natCast,hg]
   refine need_mk (fun _=>by unfold i64ok; omega) (need_mk (fun _=>⟨by omega,by simp; omega⟩) (need_mk (fun _=>by unfold i64ok; omega) (need_mk (fun _=>⟨by omega,by simp; omega⟩) ?_)))
   rw [blank_eq,Br7trim_4_eq,List.dropWhile_cons,isBl2_eq]
   have hne:((c::r).reverse != [])=true:=by simp
   rw [hne,Bool.true_and]
   cases hc:(c==32||c==9) with
   | true=>
    rw [if_pos rfl]
    refine cond_t rfl (need_mk (by rw [hl]; unfold i64ok; omega) (need_mk ⟨by omega,by simp; omega⟩ ?_))
    rw [hl,Int.toNat_natCast,List.reverse_cons,List.take_append_of_le_length (by simp),List.take_of_length_le (by simp)]
    exact Br7trim_back F r f (by omega) (by omega)
   | false=>rw [if_neg (by simp)]; exact cond_f rfl rfl
theorem Br7trim_front (F:Nat):∀ (s:List UInt8) (f:Nat),s.length<=1000000->s.length < f->s.length < F->Br7trim_1 F f s=some (.p (.str (trimBl s)),[])
 | [],f,_,hf,hF=>by
  cases f with
  | zero=>omega
  | succ f=>
   rw [Br7trim_1_eq]; refine need_mk (fun h=>by cases h) (need_mk (fun h=>by cases h) ?_); rw [Br7trim_2_eq]
   exact cond_f rfl (Br7trim_back F [] F (by simp) hF)
 | c::r,f,hs,hf,hF=>by
  cases f with
  | zero=>omega
  | succ f=>
   rw [Br7trim_1_eq,show (c::r).getD ((0:Int)).toNat 0=c from rfl]
   refine need_mk (fun _=>⟨by omega,by simp⟩) (need_mk (fun _=>⟨by omega,by simp⟩) ?_)
   rw [blank_eq,Br7trim_2_eq]
   have hne:((c::r) != [])=true:=by simp
   rw [hne,Bool.true_and]
   simp only [List.length_cons] at hs hf hF
   cases hc:(c==32||c==9) with
   | true=>
    refine cond_t rfl (need_mk ⟨by omega,by simp; omega⟩ ?_)
    rw [show (c::r).drop ((1:Int)).toNat=r from rfl,Br7trim_front F r f (by omega) (by omega) (by omega)]
    congr 3
    unfold trimBl
    rw [<-trim_comm,<-trim_comm,List.dropWhile_cons,isBl2_eq,if_pos hc]
   | false=>
    refine cond_f rfl ?_
    have h0:=Br7trim_back F (c::r).reverse F (by simp; omega) (by simp; omega)
    rw [List.reverse_reverse] at h0
    rw [h0]
    congr 3
    unfold trimBl
    rw [<-trim_comm,List.dropWhile_cons,isBl2_eq,if_neg (by rw [hc]; simp)]
theorem r7trim_eq (s:List UInt8) (hs:s.length<=1000000):Fr7trim (s.length+1) s=some (.p (.str (trimBl s)),[]):=by
 rw [Fr7trim_eq]; exact Br7trim_front _ s _ hs (by omega) (by omega)
def sp_r7trim:List AV->Option (AV×Option Prop)
 | [.p (.str s)]=>some (.p (.str (trimBl s)),some (s.length<=1000000))
 | _=>none
theorem ok_r7trim:SpecOk Tryz.prog 108 sp_r7trim:=by
 intro zs r ok he hok
 unfold sp_r7trim at he
 split at he
 .cases he; exact ⟨by kernel_rfl,fn_r7trim (_) _ _ fun hx=>r7trim_eq _ hok⟩
 .cases he
theorem cut_ix {c:UInt8} {p q:List UInt8} (hp:∀ x ∈ p,x≠c):cutS (p++c::q) c=(p,q,true)/\Lib.indexByte (p++c::q) c=(p.length:Int):=by
 have hi:Lib.indexByte (p++c::q) c=(p.length:Int):=by
  induction p with
  | nil=>simp [Lib.indexByte]
  | cons b l ih=>
   rw [List.cons_append]
   unfold Lib.indexByte
   rw [if_neg (by simpa using hp b (by simp)),ih (fun x hx=>hp x (List.mem_cons_of_mem _ hx)),if_neg (by simp)]
   simp only [List.length_cons]; omega
 refine ⟨?_,hi⟩
 rw [cutS,ixS_u8,hi,if_pos (by omega)]
 have e1:((p.length:Int)+1).toNat=p.length+1:=by omega
 rw [Int.toNat_natCast,e1]
 simp
theorem cut_no {c:UInt8} {s:List UInt8} (hp:∀ x ∈ s,x≠c):cutS s c=(s,[],false)/\Lib.indexByte s c=-1:=by
 rcases ixb_split c s with ⟨p,q,e,_,_⟩ | ⟨_,hi⟩
 .exact absurd rfl (hp c (by rw [e]; simp))
 .exact ⟨by rw [cutS,ixS_u8,hi,if_neg (by decide)],hi⟩
noncomputable def cr7made:Code:=bodyOf Tryz.f71
noncomputable def Gr7made:Cfg:=⟨Tryz.prog,mkEnv [(22,sp_Index),(108,sp_r7trim)],mkEnvR [],36,[],[([0,1,0,1,1,1],⟨[0,2,4,5],[⟨.slot 2,2,.cells []⟩]⟩),([1,0,0,1,0,0,1,0,1,1,1],⟨[0,2,4,5,25],[⟨.slot 2,2,.cells []⟩]⟩)],[]⟩
noncomputable def Br7made_1 (F f1:Nat) (s:List UInt8) (vi1 vi2:Int) (vs3 vs4:List UInt8):Option Ans:=runR Gr7made cr7made (kP Tryz.prog Tryz.f71.results.toList) F [] [1,1,1,0,1,0] f1 [(0,.p (.str s)),(2,.ref 2 0),(4,.p (.int .i64 vi1)),(5,.p (.int .i64 vi2))] [(2,.cells [.p (.str vs3),.p (.str vs4)])]
noncomputable def Br7made_2 (F f1:Nat) (s:List UInt8) (vi1 vi2:Int) (vc5:Bool) (vs3 vs4:List UInt8):Option Ans:=runB Gr7made cr7made (kP Tryz.prog Tryz.f71.results.toList) F [f1] [1,1,1,0,1,0,0,1,0,0,1] [(0,.p (.str s)),(2,.ref 2 0),(4,.p (.int .i64 vi1)),(5,.p (.int .i64 vi2)),(25,.p (.bool vc5))] [(2,.cells [.p (.str vs3),.p (.str vs4)])]
noncomputable def Fr7made (F:Nat) (s:List UInt8):Option Ans:=runF Gr7made Tryz.f71 F [.p (.str s)]
theorem Br7made_1_eq (F f1:Nat) (s:List UInt8) (vi1 vi2:Int) (vs3 vs4:List UInt8):Br7made_1 F (f1+1) s vi1 vi2 vs3 vs4=cond (decide (vi2 < vi1)) (need (0<=vi2/\vi2 < (s.length:Int)) (((need ((!(decide (((s.getD (vi2).toNat 0).toNat:Int) < (33:Int))))=true->0<=vi2/\vi2 < (s.length:Int)) (((Br7made_2 F f1 s vi1 vi2 ((decide (((s.getD (vi2).toNat 0).toNat:Int) < (33:Int)))||(decide (((s.getD (vi2).toNat 0).toNat:Int) > (126:Int)))) vs3 vs4))))))) (need (0<=vi1/\vi1<=(s.length:Int)) (need (i64ok (vi1+(1:Int))) (need (0<=(vi1+(1:Int))/\(vi1+(1:Int))<=(s.length:Int)) (need ((s.drop (vi1+(1:Int)).toNat).length<=1000000) (some (.tup [.agg [.p (.str (s.take (vi1).toNat)),.p (.str (trimBl (s.drop (vi1+(1:Int)).toNat)))],.p (.bool true)],[])))))):=by
 have h:Br7made_1 F (f1+1) s vi1 vi2 vs3 vs4=cond (decide (vi2 < vi1)) (need (0<=vi2/\vi2 < (s.length:Int)) (need ((!(decide (((s.getD (vi2).toNat 0).toNat:Int) < (33:Int))))=true->(!(decide (((s.getD (vi2).toNat 0).toNat:Int) < (33:Int))))=true) (need ((!(decide (((s.getD (vi2).toNat 0).toNat:Int) < (33:Int))))=true->(!(decide (((s.getD (vi2).toNat 0).toNat:Int) < (33:Int))))=true) (need ((!(decide (((s.getD (vi2).toNat 0).toNat:Int) < (33:Int))))=true->0<=vi2/\vi2 < (s.length:Int)) (need ((!(decide (((s.getD (vi2).toNat 0).toNat:Int) < (33:Int))))=true->(!(decide (((s.getD (vi2).toNat 0).toNat:Int) < (33:Int))))=true) (need ((decide (((s.getD (vi2).toNat 0).toNat:Int) < (33:Int)))=false->(!(decide (((s.getD (vi2).toNat 0).toNat:Int) < (33:Int))))=true) (Br7made_2 F f1 s vi1 vi2 ((decide (((s.getD (vi2).toNat 0).toNat:Int) < (33:Int)))||(decide (((s.getD (vi2).toNat 0).toNat:Int) > (126:Int)))) vs3 vs4))))))) (need (0<=vi1/\vi1<=(s.length:Int)) (need (i64ok (vi1+(1:Int))) (need (0<=(vi1+(1:Int))/\(vi1+(1:Int))<=(s.length:Int)) (need ((s.drop (vi1+(1:Int)).toNat).length<=1000000) (some (.tup [.agg [.p (.str (s.take (vi1).toNat)),.p (.str (trimBl (s.drop (vi1+(1:Int)).toNat)))],.p (.bool true)],[])))))):=by kernel_rfl
 rw [h,need_pos (show (decide (((s.getD (vi2).toNat 0).toNat:Int) < (33:Int)))=false->(!(decide (((s.getD (vi2).toNat 0).toNat:Int) < (33:Int))))=true from (fun q0=>(not_mk q0))),need_pos (show (!(decide (((s.getD (vi2).toNat 0).toNat:Int) < (33:Int))))=true->(!(decide (((s.getD (vi2).toNat 0).toNat:Int) < (33:Int))))=true from (fun q0=>q0)),need_pos (show (!(decide (((s.getD (vi2).toNat 0).toNat:Int) < (33:Int))))=true->(!(decide (((s.getD (vi2).toNat 0).toNat:Int) < (33:Int))))=true from (fun q0=>q0)),need_pos (show (!(decide (((s.getD (vi2).toNat 0).toNat:Int) < (33:Int))))=true->(!(decide (((s.getD (vi2).toNat 0).toNat:Int) < (33:Int))))=true from (fun q0=>q0))]
theorem Br7made_2_eq (F f1:Nat) (s:List UInt8) (vi1 vi2:Int) (vc5:Bool) (vs3 vs4:List UInt8):Br7made_2 F f1 s vi1 vi2 vc5 vs3 vs4=cond (vc5) (some (.tup [.agg [.p (.str ([]:List UInt8)),.p (.str ([]:List UInt8))],.p (.bool false)],[])) (need (i64ok (vi2+(1:Int))) (Br7made_1 F f1 s vi1 (vi2+(1:Int)) vs3 vs4)):=by kernel_rfl
theorem Fr7made_eq (F:Nat) (s:List UInt8):Fr7made F s=need (indexok s ([58]:List UInt8) (0:Int)) (cond (decide ((indexS s ([58]:List UInt8) (0:Int))<=(0:Int))) (some (.tup [.agg [.p (.str ([]:List UInt8)),.p (.str ([]:List UInt8))],.p (.bool false)],[])) (Br7made_1 F F s (indexS s ([58]:List UInt8) (0:Int)) (0:Int) ([]:List UInt8) ([]:List UInt8))):=by kernel_rfl
theorem fn_r7made (F:Nat) (s:List UInt8) (r:AV) (h:(∃ M vs,ARels γ0 M [.p (.str s)] vs)->Fr7made F s=some (r,[])):FnP Tryz.prog 71 [.p (.str s)] r:=
 FnP_run Gr7made F rfl (EnvOk_mk (l:=[(22,sp_Index),(108,sp_r7trim)]) ⟨ok_Index.any,ok_r7trim.any,trivial⟩) (EnvROk_mk (l:=[]) trivial) (Checked.mixed Tryz.checked) (fn:=Tryz.f71) (by kernel_rfl) (by kernel_rfl) rfl h
theorem nin_dec (c:UInt8):((decide ((c.toNat:Int) < (33:Int)))||(decide ((c.toNat:Int) > (126:Int))))=!(inName c):=by
 unfold inName
 rw [Bool.not_and,<-decide_not,<-decide_not,show decide ((c.toNat:Int) < (33:Int))=decide (¬ 33<=c.toNat) from decide_eq_decide.2 (by omega),show decide ((c.toNat:Int) > (126:Int))=decide (¬ c.toNat<=126) from decide_eq_decide.2 (by omega)]
theorem Br7made_spec (F:Nat) (p q:List UInt8) (hs:(p++58::q).length<=1000000):∀ (r:List UInt8) (f i:Nat),p.drop i=r->r.length < f->i<=p.length->
 Br7made_1 F f (p++58::q) (p.length:Int) (i:Int) [] []=(if r.all inName=true then some (.tup [.agg [.p (.str p),.p (.str (trimBl q))],.p (.bool true)],[]) else some (.tup [.agg [.p (.str []),.p (.str [])],.p (.bool false)],[])):=by
 have hl:(p++58::q).length=p.length+1+q.length:=by simp; omega
 intro r
 induction r with
 | nil=>
  intro f i hd hf hi
  have:i=p.length:=by have:=congrArg List.length hd; simp at this; omega
  cases f with
  | zero=>omega
  | succ f=>
   rw [Br7made_1_eq]
   refine cond_f (by simp; omega) (need_mk (by omega) (need_mk (by unfold i64ok; omega) (need_mk (by omega) (need_mk (by simp; omega) ?_))))
   rw [Int.toNat_natCast,show ((p.length:Int)+1).toNat=p.length+1 by omega,if_pos (show ([]:List UInt8).all inName=true from rfl)]
   simp
 | cons c r ih=>
  intro f i hd hf hi
  obtain ⟨h1,h2,h3⟩:=drop_cons hd
  have hi2:i < p.length:=by omega
  have hgd:(p++58::q).getD i 0=c:=by
   rw [<-h1,List.getD_eq_getElem?_getD,List.getD_eq_getElem?_getD,List.getElem?_append_left hi2]
  cases f with
  | zero=>omega
  | succ f=>
   rw [Br7made_1_eq,Int.toNat_natCast,hgd,nin_dec]
   refine cond_t (by simp; omega) (need_mk ⟨by omega,by omega⟩ (need_mk (fun _=>⟨by omega,by omega⟩) ?_))
   rw [Br7made_2_eq,List.all_cons]
   cases hc:inName c with
   | false=>rw [Bool.false_and,if_neg (by simp)]; exact cond_t rfl rfl
   | true=>
    rw [Bool.true_and]
    refine cond_f rfl (need_mk (by unfold i64ok; omega) ?_)
    rw [show (i:Int)+1=((i+1:Nat):Int) by omega]
    exact ih f (i+1) h2 (by simp at hf; omega) (by omega)
theorem r7made_eq (s:List UInt8) (hs:s.length<=1000000):Fr7made (s.length+1) s=some (.tup [.agg [.p (.str (madeF s).1.1),.p (.str (madeF s).1.2)],.p (.bool (madeF s).2)],[]):=by
 rw [Fr7made_eq,indexS_one]
 refine need_mk ⟨by omega,by omega,by simp; omega⟩ ?_
 rcases ixb_split 58 s with ⟨p,q,e,hp,hi⟩ | ⟨hn,hi⟩
 .obtain ⟨hc,_⟩:=cut_ix (q:=q) hp
  subst e
  rw [hi]
  unfold madeF oneF
  rw [hc]
  dsimp only
  rw [Bool.true_and]
  cases p with
  | nil=>rw [if_neg (by simp)]; exact cond_t (by simp) rfl
  | cons c p=>
   refine cond_f (by simp) ?_
   have:=Br7made_spec ((c::p++58::q).length+1) (c::p) q hs (c::p) ((c::p++58::q).length+1) 0 rfl (by simp; omega) (by omega)
   refine this.trans ?_
   cases hb:(c::p).all inName with
   | true=>rw [if_pos rfl,if_pos (by simp)]
   | false=>rw [if_neg (by simp),if_neg (by simp)]
 .rw [hi]
  refine cond_t (by decide) ?_
  unfold madeF oneF
  rw [(cut_no hn).1]
  rfl
def sp_r7made:List AV->Option (AV×Option Prop)
 | [.p (.str s)]=>some (.tup [.agg [.p (.str ((madeF s).1.1)),.p (.str ((madeF s).1.2))],.p (.bool ((madeF s).2))],some (s.length<=1000000))
 | _=>none
theorem ok_r7made:SpecOk Tryz.prog 71 sp_r7made:=by
 intro zs r ok he hok
 unfold sp_r7made at he
 split at he
 .cases he; exact ⟨by kernel_rfl,fn_r7made (_) _ _ fun hx=>r7made_eq _ hok⟩
 .cases he
end Go.Proofs.YtoanepondbagcaaGreatDoor
namespace Go.Proofs.YtoanepondbagcaaGreatDoor
open Go Go.Am
set_option linter.unusedVariables false
noncomputable def Ghpl:Cfg:=⟨Tryz.prog,mkEnv [],mkEnvR [],18,[],[],[]⟩
noncomputable def Fhpl (F:Nat) (s p:List UInt8):Option Ans:=runF Ghpl Tryz.f130 F [.p (.str s),.p (.str p)]
theorem Fhpl_eq (F:Nat) (s p:List UInt8):Fhpl F s p=(((need ((decide ((s.length:Int)>=(p.length:Int)))=true->0<=(p.length:Int)/\(p.length:Int)<=(s.length:Int)) ((((some (.p (.bool ((decide ((s.length:Int)>=(p.length:Int)))&&((s.take ((p.length:Int)).toNat)==p))),[])))))))):=by
 have h:Fhpl F s p=need ((decide ((s.length:Int)>=(p.length:Int)))=true->(decide ((s.length:Int)>=(p.length:Int)))=true) (need ((decide ((s.length:Int)>=(p.length:Int)))=true->(decide ((s.length:Int)>=(p.length:Int)))=true) (need ((decide ((s.length:Int)>=(p.length:Int)))=true->(decide ((s.length:Int)>=(p.length:Int)))=true) (need ((decide ((s.length:Int)>=(p.length:Int)))=true->0<=(p.length:Int)/\(p.length:Int)<=(s.length:Int)) (need ((decide ((s.length:Int)>=(p.length:Int)))=true->(decide ((s.length:Int)>=(p.length:Int)))=true) (need ((decide ((s.length:Int)>=(p.length:Int)))=true->(decide ((s.length:Int)>=(p.length:Int)))=true) (need ((decide ((s.length:Int)>=(p.length:Int)))=true->(decide ((s.length:Int)>=(p.length:Int)))=true) (some (.p (.bool ((decide ((s.length:Int)>=(p.length:Int)))&&((s.take ((p.length:Int)).toNat)==p))),[])))))))):=by kernel_rfl
 rw [h,need_pos (show (decide ((s.length:Int)>=(p.length:Int)))=true->(decide ((s.length:Int)>=(p.length:Int)))=true from (fun q0=>q0)),need_pos (show (decide ((s.length:Int)>=(p.length:Int)))=true->(decide ((s.length:Int)>=(p.length:Int)))=true from (fun q0=>q0)),need_pos (show (decide ((s.length:Int)>=(p.length:Int)))=true->(decide ((s.length:Int)>=(p.length:Int)))=true from (fun q0=>q0)),need_pos (show (decide ((s.length:Int)>=(p.length:Int)))=true->(decide ((s.length:Int)>=(p.length:Int)))=true from (fun q0=>q0)),need_pos (show (decide ((s.length:Int)>=(p.length:Int)))=true->(decide ((s.length:Int)>=(p.length:Int)))=true from (fun q0=>q0)),need_pos (show (decide ((s.length:Int)>=(p.length:Int)))=true->(decide ((s.length:Int)>=(p.length:Int)))=true from (fun q0=>q0))]
theorem fn_hpl (F:Nat) (s p:List UInt8) (r:AV) (h:(∃ M vs,ARels γ0 M [.p (.str s),.p (.str p)] vs)->Fhpl F s p=some (r,[])):FnP Tryz.prog 130 [.p (.str s),.p (.str p)] r:=
 FnP_run Ghpl F rfl (EnvOk_mk (l:=[]) trivial) (EnvROk_mk (l:=[]) trivial) (Checked.mixed Tryz.checked) (fn:=Tryz.f130) (by kernel_rfl) (by kernel_rfl) rfl h
def hasP (s p:List UInt8):Bool:=s.take p.length==p
theorem hpl_eq (s p:List UInt8):Fhpl 0 s p=some (.p (.bool (hasP s p)),[]):=by
 rw [Fhpl_eq]
 refine need_mk (fun h=>⟨by omega,by simpa using h⟩) ?_
 rw [show ((p.length:Int)).toNat=p.length from rfl]
 by_cases h:p.length<=s.length
 .rw [show decide ((s.length:Int)>=(p.length:Int))=true by simpa using h]; rfl
 .rw [show decide ((s.length:Int)>=(p.length:Int))=false by simpa using h,Bool.false_and]
  have:hasP s p=false:=by
   unfold hasP
   rw [beq_eq_false_iff_ne]
   intro e
   have:=congrArg List.length e
   simp at this; omega
  rw [this]
def sp_hpl:List AV->Option (AV×Option Prop)
 | [.p (.str s),.p (.str p)]=>some (.p (.bool (hasP s p)),none)
 | _=>none
theorem ok_hpl:SpecOk Tryz.prog 130 sp_hpl:=by
 intro zs r ok he hok
 unfold sp_hpl at he
 split at he
 .cases he; exact ⟨by kernel_rfl,fn_hpl 0 _ _ _ fun hx=>hpl_eq _ _⟩
 .cases he
noncomputable def Ghp:Cfg:=⟨Tryz.prog,mkEnv [(130,sp_hpl)],mkEnvR [],8,[],[],[]⟩
noncomputable def Fhp (F:Nat) (s p:List UInt8):Option Ans:=runF Ghp Tryz.f98 F [.p (.str s),.p (.str p)]
theorem Fhp_eq (F:Nat) (s p:List UInt8):Fhp F s p=some (.p (.bool (hasP s p)),[]):=by kernel_rfl
theorem fn_hp (F:Nat) (s p:List UInt8) (r:AV) (h:(∃ M vs,ARels γ0 M [.p (.str s),.p (.str p)] vs)->Fhp F s p=some (r,[])):FnP Tryz.prog 98 [.p (.str s),.p (.str p)] r:=
 FnP_run Ghp F rfl (EnvOk_mk (l:=[(130,sp_hpl)]) ⟨ok_hpl.any,trivial⟩) (EnvROk_mk (l:=[]) trivial) (Checked.mixed Tryz.checked) (fn:=Tryz.f98) (by kernel_rfl) (by kernel_rfl) rfl h
theorem hp_eq (s p:List UInt8):Fhp 0 s p=some (.p (.bool (hasP s p)),[]):=by rw [Fhp_eq]
def sp_hp:List AV->Option (AV×Option Prop)
 | [.p (.str s),.p (.str p)]=>some (.p (.bool (hasP s p)),none)
 | _=>none
theorem ok_hp:SpecOk Tryz.prog 98 sp_hp:=by
 intro zs r ok he hok
 unfold sp_hp at he
 split at he
 .cases he; exact ⟨by kernel_rfl,fn_hp 0 _ _ _ fun hx=>hp_eq _ _⟩
 .cases he
end Go.Proofs.YtoanepondbagcaaGreatDoor
