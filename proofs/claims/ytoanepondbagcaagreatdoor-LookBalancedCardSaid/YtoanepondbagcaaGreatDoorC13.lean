/-
  Lifted functions, and facts about them.
-/
import Derived.Test.YtoanepondbagcaaGreatDoorRows
import Derived.Test.YtoanepondbagcaaGreatDoorAmC
import Derived.Test.YtoanepondbagcaaGreatDoorC01
import Derived.Test.YtoanepondbagcaaGreatDoorC12
import Derived.Test.YtoanepondbagcaaGreatDoorC02
namespace Go.Proofs.YtoanepondbagcaaGreatDoor
open Go Go.Am
set_option linter.unusedVariables false
def typedP (s:List UInt8):Bool:=(((cutS s 47).2.2&&((cutS s 47).1 != []))&&((cutS s 47).2.1 != []))&&!(decide (0<=ixS (cutS s 47).2.1 47))
noncomputable def Gcontains1:Cfg:=⟨Tryz.prog,mkEnv [(94,sp_ix1)],mkEnvR [],9,[],[],[]⟩
noncomputable def Fcontains1 (F:Nat) (s:List UInt8) (c:UInt8):Option Ans:=runF Gcontains1 Tryz.f129 F [.p (.str s),.p (.str [c])]
theorem Fcontains1_eq (F:Nat) (s:List UInt8) (c:UInt8):Fcontains1 F s c=some (.p (.bool (decide ((ixS s (c.toNat:Int))>=(0:Int)))),[]):=by kernel_rfl
theorem fn_contains1 (F:Nat) (s:List UInt8) (c:UInt8) (r:AV) (h:(∃ M vs,ARels γ0 M [.p (.str s),.p (.str [c])] vs)->Fcontains1 F s c=some (r,[])):FnP Tryz.prog 129 [.p (.str s),.p (.str [c])] r:=
 FnP_run Gcontains1 F rfl (EnvOk_mk (l:=[(94,sp_ix1)]) ⟨ok_ix1.any,trivial⟩) (EnvROk_mk (l:=[]) trivial) (Checked.mixed Tryz.checked) (fn:=Tryz.f129) (by kernel_rfl) (by kernel_rfl) rfl h
theorem contains1_eq (s:List UInt8) (c:UInt8):Fcontains1 0 s c=some (.p (.bool (decide (0<=ixS s (c.toNat:Int)))),[]):=by
 rw [Fcontains1_eq]
def sp_contains1:List AV->Option (AV×Option Prop)
 | [.p (.str s),.p (.str [c])]=>some (.p (.bool (decide (0<=ixS s ((c:UInt8).toNat:Int)))),none)
 | _=>none
theorem ok_contains1:SpecOk Tryz.prog 129 sp_contains1:=by
 intro zs r ok he hok
 unfold sp_contains1 at he
 split at he
 .cases he; exact ⟨by kernel_rfl,fn_contains1 0 _ _ _ fun hx=>contains1_eq _ _⟩
 .cases he
noncomputable def Gptyped:Cfg:=⟨Tryz.prog,mkEnv [(53,sp_cut),(129,sp_contains1)],mkEnvR [],26,[],[],[]⟩
noncomputable def Fptyped (F:Nat) (s:List UInt8):Option Ans:=runF Gptyped Tryz.f96 F [.p (.str s)]
theorem Fptyped_eq (F:Nat) (s:List UInt8):Fptyped F s=need (s.length<=1000000) (some (.p (.bool (((((cutS s 47).2.2)&&(((cutS s 47).1) != ([]:List UInt8)))&&(((cutS s 47).2.1) != ([]:List UInt8)))&&(!(decide (0<=ixS ((cutS s 47).2.1) ((47:UInt8).toNat:Int)))))),[])):=
 Eq.trans (show Fptyped F s=need (s.length<=1000000) (need (((cutS s 47).2.2)=true->((cutS s 47).2.2)=true) (need (((cutS s 47).2.2)=true->((cutS s 47).2.2)=true) (need ((((cutS s 47).2.2)&&(((cutS s 47).1) != ([]:List UInt8)))=true->(((cutS s 47).2.2)&&(((cutS s 47).1) != ([]:List UInt8)))=true) (need ((((cutS s 47).2.2)&&(((cutS s 47).1) != ([]:List UInt8)))=true->(((cutS s 47).2.2)&&(((cutS s 47).1) != ([]:List UInt8)))=true) (need (((((cutS s 47).2.2)&&(((cutS s 47).1) != ([]:List UInt8)))&&(((cutS s 47).2.1) != ([]:List UInt8)))=true->((((cutS s 47).2.2)&&(((cutS s 47).1) != ([]:List UInt8)))&&(((cutS s 47).2.1) != ([]:List UInt8)))=true) (need (((((cutS s 47).2.2)&&(((cutS s 47).1) != ([]:List UInt8)))&&(((cutS s 47).2.1) != ([]:List UInt8)))=true->((((cutS s 47).2.2)&&(((cutS s 47).1) != ([]:List UInt8)))&&(((cutS s 47).2.1) != ([]:List UInt8)))=true) (need (((((cutS s 47).2.2)&&(((cutS s 47).1) != ([]:List UInt8)))&&(((cutS s 47).2.1) != ([]:List UInt8)))=true->((((cutS s 47).2.2)&&(((cutS s 47).1) != ([]:List UInt8)))&&(((cutS s 47).2.1) != ([]:List UInt8)))=true) (some (.p (.bool (((((cutS s 47).2.2)&&(((cutS s 47).1) != ([]:List UInt8)))&&(((cutS s 47).2.1) != ([]:List UInt8)))&&(!(decide (0<=ixS ((cutS s 47).2.1) ((47:UInt8).toNat:Int)))))),[]))))))))) by kernel_rfl) (need_congr (need_strike (show ((cutS s 47).2.2)=true->((cutS s 47).2.2)=true from (fun q0=>q0)) (need_strike (show ((cutS s 47).2.2)=true->((cutS s 47).2.2)=true from (fun q0=>q0)) (need_strike (show (((cutS s 47).2.2)&&(((cutS s 47).1) != ([]:List UInt8)))=true->(((cutS s 47).2.2)&&(((cutS s 47).1) != ([]:List UInt8)))=true from (fun q0=>q0)) (need_strike (show (((cutS s 47).2.2)&&(((cutS s 47).1) != ([]:List UInt8)))=true->(((cutS s 47).2.2)&&(((cutS s 47).1) != ([]:List UInt8)))=true from (fun q0=>q0)) (need_strike (show ((((cutS s 47).2.2)&&(((cutS s 47).1) != ([]:List UInt8)))&&(((cutS s 47).2.1) != ([]:List UInt8)))=true->((((cutS s 47).2.2)&&(((cutS s 47).1) != ([]:List UInt8)))&&(((cutS s 47).2.1) != ([]:List UInt8)))=true from (fun q0=>q0)) (need_strike (show ((((cutS s 47).2.2)&&(((cutS s 47).1) != ([]:List UInt8)))&&(((cutS s 47).2.1) != ([]:List UInt8)))=true->((((cutS s 47).2.2)&&(((cutS s 47).1) != ([]:List UInt8)))&&(((cutS s 47).2.1) != ([]:List UInt8)))=true from (fun q0=>q0)) (need_strike (show ((((cutS s 47).2.2)&&(((cutS s 47).1) != ([]:List UInt8)))&&(((cutS s 47).2.1) != ([]:List UInt8)))=true->((((cutS s 47).2.2)&&(((cutS s 47).1) != ([]:List UInt8)))&&(((cutS s 47).2.1) != ([]:List UInt8)))=true from (fun q0=>q0)) (rfl)))))))))
theorem fn_ptyped (F:Nat) (s:List UInt8) (r:AV) (h:(∃ M vs,ARels γ0 M [.p (.str s)] vs)->Fptyped F s=some (r,[])):FnP Tryz.prog 96 [.p (.str s)] r:=
 FnP_run Gptyped F rfl (EnvOk_mk (l:=[(53,sp_cut),(129,sp_contains1)]) ⟨ok_cut.any,ok_contains1.any,trivial⟩) (EnvROk_mk (l:=[]) trivial) (Checked.mixed Tryz.checked) (fn:=Tryz.f96) (by kernel_rfl) (by kernel_rfl) rfl h
theorem ptyped_eq (s:List UInt8) (hs:s.length<=1000000):Fptyped 0 s=some (.p (.bool (typedP s)),[]):=by
 rw [Fptyped_eq]; exact need_mk hs rfl
def sp_ptyped:List AV->Option (AV×Option Prop)
 | [.p (.str s)]=>some (.p (.bool (typedP s)),some (s.length<=1000000))
 | _=>none
theorem ok_ptyped:SpecOk Tryz.prog 96 sp_ptyped:=by
 intro zs r ok he hok
 unfold sp_ptyped at he
 split at he
 .cases he; exact ⟨by kernel_rfl,fn_ptyped 0 _ _ fun hx=>ptyped_eq _ hok⟩
 .cases he
def aheadN (s:List UInt8) (i:Nat):Nat:=
 if 0 < i/\s.getD (i - 1) 0=10 then (if 0 < i - 1/\s.getD (i - 1 - 1) 0=13 then i - 1 - 1 else i - 1) else i
theorem aheadN_le (s:List UInt8) (i:Nat):aheadN s i<=i/\i<=aheadN s i+2:=by unfold aheadN; (repeat' split) <;> omega
noncomputable def cahead:Code:=bodyOf Tryz.f101
noncomputable def Gahead:Cfg:=⟨Tryz.prog,mkEnv [],mkEnvR [],28,[],[([1,1,0,1,0,1],⟨[1,24],[]⟩),([1,1],⟨[1],[]⟩)],[]⟩
noncomputable def Bahead_1 (F:Nat) (vi1:Int) (vc2:Bool):Option Ans:=runB Gahead cahead (kP Tryz.prog Tryz.f101.results.toList) F [] [1,0,1,0,1,1] [(1,.p (.int .i64 vi1)),(24,.p (.bool vc2))] []
noncomputable def Bahead_2 (F:Nat) (vi3:Int):Option Ans:=runB Gahead cahead (kP Tryz.prog Tryz.f101.results.toList) F [] [1,1] [(1,.p (.int .i64 vi3))] []
noncomputable def Fahead (F:Nat) (s:List UInt8) (i:Int):Option Ans:=runF Gahead Tryz.f101 F [.p (.str s),.p (.int .i64 i)]
theorem Bahead_1_eq (F:Nat) (vi1:Int) (vc2:Bool):Bahead_1 F vi1 vc2=cond (vc2) (need (i64ok (vi1 - (1:Int))) (Bahead_2 F (vi1 - (1:Int)))) (Bahead_2 F vi1):=by kernel_rfl
theorem Bahead_2_eq (F:Nat) (vi3:Int):Bahead_2 F vi3=some (.p (.int .i64 vi3),[]):=by kernel_rfl
theorem Fahead_eq (F:Nat) (s:List UInt8) (i:Int):Fahead F s i=need ((decide (i > (0:Int)))=true->i64ok (i - (1:Int))) (need ((decide (i > (0:Int)))=true->0<=(i - (1:Int))/\(i - (1:Int)) < (s.length:Int)) (cond ((decide (i > (0:Int)))&&(((s.getD (i - (1:Int)).toNat 0).toNat:Int)==(10:Int))) (need (i64ok (i - (1:Int))) (need ((decide ((i - (1:Int)) > (0:Int)))=true->i64ok ((i - (1:Int)) - (1:Int))) (need ((decide ((i - (1:Int)) > (0:Int)))=true->0<=((i - (1:Int)) - (1:Int))/\((i - (1:Int)) - (1:Int)) < (s.length:Int)) (Bahead_1 F (i - (1:Int)) ((decide ((i - (1:Int)) > (0:Int)))&&(((s.getD ((i - (1:Int)) - (1:Int)).toNat 0).toNat:Int)==(13:Int))))))) (Bahead_2 F i))):=
 Eq.trans (show Fahead F s i=need ((decide (i > (0:Int)))=true->(decide (i > (0:Int)))=true) (need ((decide (i > (0:Int)))=true->i64ok (i - (1:Int))) (need ((decide (i > (0:Int)))=true->(decide (i > (0:Int)))=true) (need ((decide (i > (0:Int)))=true->(decide (i > (0:Int)))=true) (need ((decide (i > (0:Int)))=true->0<=(i - (1:Int))/\(i - (1:Int)) < (s.length:Int)) (need ((decide (i > (0:Int)))=true->(decide (i > (0:Int)))=true) (need ((decide (i > (0:Int)))=true->(decide (i > (0:Int)))=true) (cond ((decide (i > (0:Int)))&&(((s.getD (i - (1:Int)).toNat 0).toNat:Int)==(10:Int))) (need (i64ok (i - (1:Int))) (need ((decide ((i - (1:Int)) > (0:Int)))=true->(decide ((i - (1:Int)) > (0:Int)))=true) (need ((decide ((i - (1:Int)) > (0:Int)))=true->i64ok ((i - (1:Int)) - (1:Int))) (need ((decide ((i - (1:Int)) > (0:Int)))=true->(decide ((i - (1:Int)) > (0:Int)))=true) (need ((decide ((i - (1:Int)) > (0:Int)))=true->(decide ((i - (1:Int)) > (0:Int)))=true) (need ((decide ((i - (1:Int)) > (0:Int)))=true->0<=((i - (1:Int)) - (1:Int))/\((i - (1:Int)) - (1:Int)) < (s.length:Int)) (need ((decide ((i - (1:Int)) > (0:Int)))=true->(decide ((i - (1:Int)) > (0:Int)))=true) (need ((decide ((i - (1:Int)) > (0:Int)))=true->(decide ((i - (1:Int)) > (0:Int)))=true) (Bahead_1 F (i - (1:Int)) ((decide ((i - (1:Int)) > (0:Int)))&&(((s.getD ((i - (1:Int)) - (1:Int)).toNat 0).toNat:Int)==(13:Int)))))))))))) (Bahead_2 F i)))))))) by kernel_rfl) (need_strike (show (decide (i > (0:Int)))=true->(decide (i > (0:Int)))=true from (fun q0=>q0)) (need_congr (need_strike (show (decide (i > (0:Int)))=true->(decide (i > (0:Int)))=true from (fun q0=>q0)) (need_strike (show (decide (i > (0:Int)))=true->(decide (i > (0:Int)))=true from (fun q0=>q0)) (need_congr (need_strike (show (decide (i > (0:Int)))=true->(decide (i > (0:Int)))=true from (fun q0=>q0)) (need_strike (show (decide (i > (0:Int)))=true->(decide (i > (0:Int)))=true from (fun q0=>q0)) (cond_congr (need_congr (need_strike (show (decide ((i - (1:Int)) > (0:Int)))=true->(decide ((i - (1:Int)) > (0:Int)))=true from (fun q0=>q0)) (need_congr (need_strike (show (decide ((i - (1:Int)) > (0:Int)))=true->(decide ((i - (1:Int)) > (0:Int)))=true from (fun q0=>q0)) (need_strike (show (decide ((i - (1:Int)) > (0:Int)))=true->(decide ((i - (1:Int)) > (0:Int)))=true from (fun q0=>q0)) (need_congr (need_strike (show (decide ((i - (1:Int)) > (0:Int)))=true->(decide ((i - (1:Int)) > (0:Int)))=true from (fun q0=>q0)) (need_strike (show (decide ((i - (1:Int)) > (0:Int)))=true->(decide ((i - (1:Int)) > (0:Int)))=true from (fun q0=>q0)) (rfl))))))))) (rfl)))))))))
theorem fn_ahead (F:Nat) (s:List UInt8) (i:Int) (r:AV) (h:(∃ M vs,ARels γ0 M [.p (.str s),.p (.int .i64 i)] vs)->Fahead F s i=some (r,[])):FnP Tryz.prog 101 [.p (.str s),.p (.int .i64 i)] r:=
 FnP_run Gahead F rfl (EnvOk_mk (l:=[]) trivial) (EnvROk_mk (l:=[]) trivial) (Checked.mixed Tryz.checked) (fn:=Tryz.f101) (by kernel_rfl) (by kernel_rfl) rfl h
theorem ahead_eq (s:List UInt8) (i:Int) (h:0<=i/\i<=s.length/\s.length<=1000000):Fahead 0 s i=some (.p (.int .i64 ((aheadN s i.toNat:Nat):Int)),[]):=by
 obtain ⟨n,rfl⟩:=Int.eq_ofNat_of_zero_le h.1
 rw [Fahead_eq,Int.toNat_natCast]
 unfold aheadN
 refine need_mk (fun _=>by unfold i64ok; omega) (need_mk (fun h0=>by have:=of_decide_eq_true h0; omega) ?_)
 by_cases h0:0 < n
 .have e1:((n:Int) - 1)=((n - 1:Nat):Int):=by omega
  rw [e1,Int.toNat_natCast]
  by_cases h10:s.getD (n - 1) 0=10
  .rw [if_pos ⟨h0,h10⟩,h10]
   refine cond_t (by simp; omega) (need_mk (by unfold i64ok; omega) (need_mk (fun _=>by unfold i64ok; omega) (need_mk (fun h1=>by have:=of_decide_eq_true h1; omega) ?_)))
   rw [Bahead_1_eq]
   by_cases h1:0 < n - 1
   .have e2:(((n - 1:Nat):Int) - 1)=((n - 1 - 1:Nat):Int):=by omega
    rw [e2,Int.toNat_natCast]
    by_cases h13:s.getD (n - 1 - 1) 0=13
    .rw [if_pos ⟨h1,h13⟩,h13]
     refine cond_t (by simp; omega) (need_mk (by unfold i64ok; omega) ?_)
     rw [Bahead_2_eq]
    .have:(s.getD (n - 1 - 1) 0).toNat≠13:=fun e=>h13 (UInt8.toNat_inj.1 e)
     rw [if_neg (fun h=>h13 h.2)]
     refine cond_f (by simp only [Bool.and_eq_false_iff,beq_eq_false_iff_ne]; right; omega) ?_
     rw [Bahead_2_eq]
   .rw [if_neg (fun h=>h1 h.1)]
    refine cond_f (by simp only [Bool.and_eq_false_iff,decide_eq_false_iff_not]; left; omega) ?_
    rw [Bahead_2_eq]
  .have:(s.getD (n - 1) 0).toNat≠10:=fun e=>h10 (UInt8.toNat_inj.1 e)
   rw [if_neg (fun h=>h10 h.2)]
   refine cond_f (by simp only [Bool.and_eq_false_iff,beq_eq_false_iff_ne]; right; omega) ?_
   rw [Bahead_2_eq]
 .rw [if_neg (fun h=>h0 h.1)]
  refine cond_f (by simp only [Bool.and_eq_false_iff,decide_eq_false_iff_not]; left; omega) ?_
  rw [Bahead_2_eq]
def sp_ahead:List AV->Option (AV×Option Prop)
 | [.p (.str s),.p (.int .i64 i)]=>some (.p (.int .i64 ((aheadN s (i).toNat:Nat):Int)),some (0<=i/\i<=s.length/\s.length<=1000000))
 | _=>none
theorem ok_ahead:SpecOk Tryz.prog 101 sp_ahead:=by
 intro zs r ok he hok
 unfold sp_ahead at he
 split at he
 .cases he; exact ⟨by kernel_rfl,fn_ahead 0 _ _ _ fun hx=>ahead_eq _ _ hok⟩
 .cases he
def maxN (a b:Nat):Nat:=if b > a then b else a
def addS (s:List UInt8) (op:Option Nat) (at0:Nat) (out:List (Nat×Nat)):List (Nat×Nat):=match op with
 | some o=>out++[(o,maxN o (aheadN s at0))]
 | none=>out
def spF (s m:List UInt8) (b:Nat):List (Nat×List UInt8×Nat)->Option Nat->List (Nat×Nat)->List (Nat×Nat)
 | [],op,out=>match op with
  | some o=>out++[(o,b)]
  | none=>out
 | (i,t,nx)::r,op,out=>if trimRB t=m++[45,45] then addS s op i out else if trimRB t=m then spF s m b r (some nx) (addS s op i out) else spF s m b r op out
def spansN (s:List UInt8) (a b:Nat) (m:List UInt8):List (Nat×Nat):=spF s m b (linesN s a b) none []
def spanI (x:Nat×Nat):Int×Int:=((x.1:Int),(x.2:Int))
def spansI (s:List UInt8) (a b:Int) (m:List UInt8):List (Int×Int):=(spansN s a.toNat b.toNat m).map spanI
abbrev spanok (s:List UInt8) (a b:Int) (m:List UInt8):Prop:=0<=a/\a<=b/\b<=s.length/\s.length<=1000000/\m.length<=2000000
end Go.Proofs.YtoanepondbagcaaGreatDoor
