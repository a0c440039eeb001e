/-
  Lifted functions, and facts about them.
-/
import Derived.Test.YtampckbjinodgaaGreatDoorRows
import Derived.Test.YtampckbjinodgaaGreatDoorAmC
import Derived.Test.YtampckbjinodgaaGreatDoorC01
import Derived.Test.YtampckbjinodgaaGreatDoorC12
import Derived.Test.YtampckbjinodgaaGreatDoorC02
namespace Go.Proofs.YtampckbjinodgaaGreatDoor
open Go Go.Am
set_option linter.unusedVariables false
def firstS:List (List UInt8×List UInt8)->List UInt8->List UInt8×Bool
 | [],_=>([],false)
 | x::r,n=>if foldS x.1=foldS n then (x.2,true) else firstS r n
abbrev firstok (l:List (List UInt8×List UInt8)) (n:List UInt8):Prop:=n.length<=140737488355328/\(∀ x ∈ l,x.1.length<=140737488355328)/\l.length<=1000000000000
noncomputable def cfirst:Code:=bodyOf Tryz.f45
noncomputable def Gfirst:Cfg:=⟨Tryz.prog,mkEnv [(27,sp_Fold)],mkEnvR [],23,[],[([0,1,0,1],⟨[1,8,9,10],[]⟩)],[]⟩
noncomputable def Bfirst_1 (F f1:Nat) (n:List UInt8) (l:List (List UInt8×List UInt8)) (vi1 vi2:Int):Option Ans:=runR Gfirst cfirst (kP Tryz.prog Tryz.f45.results.toList) F [] [1,0,1,0] f1 [(1,.p (.str n)),(8,.p (.list 2 (.dat (.pair .str .str) l))),(9,.p (.int .i64 vi1)),(10,.p (.int .i64 vi2))] []
noncomputable def Ffirst (F:Nat) (l:List (List UInt8×List UInt8)) (n:List UInt8):Option Ans:=runF Gfirst Tryz.f45 F [.p (.list 2 (.dat (.pair .str .str) l)),.p (.str n)]
theorem Bfirst_1_eq (F f1:Nat) (n:List UInt8) (l:List (List UInt8×List UInt8)) (vi1 vi2:Int):Bfirst_1 F (f1+1) n l vi1 vi2=cond (decide (vi2 < vi1)) (need (0<=vi2/\vi2 < (l.length:Int)) (need (((l.getD (vi2).toNat ([],[])).1).length<=140737488355328) (need (n.length<=140737488355328) (cond ((foldS ((l.getD (vi2).toNat ([],[])).1))==(foldS n)) (some (.tup [.p (.str ((l.getD (vi2).toNat ([],[])).2)),.p (.bool true)],[])) (need (i64ok (vi2+(1:Int))) (Bfirst_1 F f1 n l vi1 (vi2+(1:Int)))))))) (some (.tup [.p (.str ([]:List UInt8)),.p (.bool false)],[])):=by kernel_rfl
theorem Ffirst_eq (F:Nat) (l:List (List UInt8×List UInt8)) (n:List UInt8):Ffirst F l n=Bfirst_1 F F n l (l.length:Int) (0:Int):=by kernel_rfl
theorem fn_first (F:Nat) (l:List (List UInt8×List UInt8)) (n:List UInt8) (r:AV) (h:(∃ M vs,ARels γ0 M [.p (.list 2 (.dat (.pair .str .str) l)),.p (.str n)] vs)->Ffirst F l n=some (r,[])):FnP Tryz.prog 45 [.p (.list 2 (.dat (.pair .str .str) l)),.p (.str n)] r:=
 FnP_run Gfirst F rfl (EnvOk_mk (l:=[(27,sp_Fold)]) ⟨ok_Fold.any,trivial⟩) (EnvROk_mk (l:=[]) trivial) (Checked.mixed Tryz.checked) (fn:=Tryz.f45) (by kernel_rfl) (by kernel_rfl) rfl h
theorem Bfirst_spec (F:Nat) (l:List (List UInt8×List UInt8)) (n:List UInt8) (hk:firstok l n):∀ (r:List (List UInt8×List UInt8)) (f i:Nat),l.drop i=r->r.length < f->i<=l.length->
 Bfirst_1 F f n l (l.length:Int) (i:Int)=some (.tup [.p (.str (firstS r n).1),.p (.bool (firstS r n).2)],[]):=by
 intro r
 induction r with
 | nil=>
  intro f i hd hf hi
  have:i=l.length:=by have:=congrArg List.length hd; simp at this; omega
  cases f with
  | zero=>omega
  | succ f=>rw [Bfirst_1_eq]; exact cond_f (by simp; omega) rfl
 | cons c r ih=>
  intro f i hd hf hi
  obtain ⟨h1,h2,h3⟩:=dropG hd ([],[])
  cases f with
  | zero=>omega
  | succ f=>
   rw [Bfirst_1_eq,Int.toNat_natCast,h1]
   refine cond_t (by simp; omega) (need_mk ⟨by omega,by omega⟩ (need_mk (hk.2.1 c (by rw [<-h1]; exact getD_mem h3 _)) (need_mk hk.1 ?_)))
   rw [firstS]
   by_cases he:foldS c.1=foldS n
   .rw [if_pos he]; exact cond_t (by rw [he]; exact beq_self_eq_true _) rfl
   .rw [if_neg he]
    refine cond_f (by simpa using he) (need_mk (by have:=hk.2.2; unfold i64ok; omega) ?_)
    rw [show (i:Int)+1=((i+1:Nat):Int) by omega]
    exact ih f (i+1) h2 (by simp at hf; omega) (by omega)
theorem first_eq (l:List (List UInt8×List UInt8)) (n:List UInt8) (hk:firstok l n):Ffirst (l.length+1) l n=some (.tup [.p (.str (firstS l n).1),.p (.bool (firstS l n).2)],[]):=by
 rw [Ffirst_eq]
 exact Bfirst_spec _ l n hk l (l.length+1) 0 rfl (by omega) (by omega)
def sp_first:List AV->Option (AV×Option Prop)
 | [.p (.list 2 (.dat (.pair .str .str) l)),.p (.str n)]=>some (.tup [.p (.str ((firstS l n).1)),.p (.bool ((firstS l n).2))],some (firstok l n))
 | _=>none
theorem ok_first:SpecOk Tryz.prog 45 sp_first:=by
 intro zs r ok he hok
 unfold sp_first at he
 split at he
 .cases he; exact ⟨by kernel_rfl,fn_first (_) _ _ _ fun hx=>first_eq _ _ hok⟩
 .cases he
end Go.Proofs.YtampckbjinodgaaGreatDoor
