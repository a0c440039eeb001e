/-
  Lifted functions, and facts about them.
-/
import Derived.Test.YtampckbjinodgaaGreatDoorRows
import Derived.Test.YtampckbjinodgaaGreatDoorAmC
import Derived.Test.YtampckbjinodgaaGreatDoorC01
import Derived.Test.YtampckbjinodgaaGreatDoorC02
import Derived.Test.YtampckbjinodgaaGreatDoorC03
import Derived.WalkKit
namespace Go.Proofs.YtampckbjinodgaaGreatDoor
open Go Go.Am
set_option linter.unusedVariables false
abbrev wposok (s:List UInt8) (i:Int):Prop:=0<=i/\i<=s.length/\s.length<=100000
def inW (c:UInt8):Bool:=decide (33<=c.toNat)&&decide (c.toNat<=126)&&decide (c.toNat≠63)
def isBl (c:UInt8):Bool:=c==32||c==9
def runN (s:List UInt8) (i:Nat):Nat:=i+((s.drop i).takeWhile inW).length
def blN (s:List UInt8) (i:Nat):Nat:=i+((s.drop i).takeWhile isBl).length
def runS (s:List UInt8) (i:Int):Int:=(runN s i.toNat:Int)
def blankS (s:List UInt8) (i:Int):Int:=(blN s i.toNat:Int)
theorem tw_len {p:UInt8->Bool} (l:List UInt8):(l.takeWhile p).length<=l.length:=by
 induction l with
 | nil=>simp
 | cons c r ih=>rw [List.takeWhile_cons]; split <;> simp <;> omega
theorem runN_le {s:List UInt8} {i:Nat} (h:i<=s.length):i<=runN s i/\runN s i<=s.length:=by
 have:=tw_len (p:=inW) (s.drop i)
 simp at this
 unfold runN; omega
theorem blN_le {s:List UInt8} {i:Nat} (h:i<=s.length):i<=blN s i/\blN s i<=s.length:=by
 have:=tw_len (p:=isBl) (s.drop i)
 simp at this
 unfold blN; omega
noncomputable def cwrun:Code:=bodyOf Tryz.f113
noncomputable def Gwrun:Cfg:=⟨Tryz.prog,mkEnv [],mkEnvR [],30,[],[([0,0,1],⟨[0,1],[]⟩),([1,0,0,0,0,1],⟨[0,1,26],[]⟩)],[]⟩
noncomputable def Bwrun_1 (F f1:Nat) (s:List UInt8) (vi1:Int):Option Ans:=runR Gwrun cwrun (kP Tryz.prog Tryz.f113.results.toList) F [] [1,0,0] f1 [(0,.p (.str s)),(1,.p (.int .i64 vi1))] []
noncomputable def Bwrun_2 (F f1:Nat) (s:List UInt8) (vi1:Int) (vc2:Bool):Option Ans:=runB Gwrun cwrun (kP Tryz.prog Tryz.f113.results.toList) F [f1] [1,0,0,0,0,1] [(0,.p (.str s)),(1,.p (.int .i64 vi1)),(26,.p (.bool vc2))] []
noncomputable def Fwrun (F:Nat) (s:List UInt8) (i:Int):Option Ans:=runF Gwrun Tryz.f113 F [.p (.str s),.p (.int .i64 i)]
theorem Bwrun_1_eq (F f1:Nat) (s:List UInt8) (vi1:Int):Bwrun_1 F (f1+1) s vi1=need ((decide (vi1 < (s.length:Int)))=true->0<=vi1/\vi1 < (s.length:Int)) (need (((decide (vi1 < (s.length:Int)))&&(decide (((s.getD (vi1).toNat 0).toNat:Int)>=(33:Int))))=true->0<=vi1/\vi1 < (s.length:Int)) (need ((((decide (vi1 < (s.length:Int)))&&(decide (((s.getD (vi1).toNat 0).toNat:Int)>=(33:Int))))&&(decide (((s.getD (vi1).toNat 0).toNat:Int)<=(126:Int))))=true->0<=vi1/\vi1 < (s.length:Int)) (Bwrun_2 F f1 s vi1 ((((decide (vi1 < (s.length:Int)))&&(decide (((s.getD (vi1).toNat 0).toNat:Int)>=(33:Int))))&&(decide (((s.getD (vi1).toNat 0).toNat:Int)<=(126:Int))))&&(((s.getD (vi1).toNat 0).toNat:Int) != (63:Int)))))):=
 Eq.trans (show Bwrun_1 F (f1+1) s vi1=need ((decide (vi1 < (s.length:Int)))=true->(decide (vi1 < (s.length:Int)))=true) (need ((decide (vi1 < (s.length:Int)))=true->(decide (vi1 < (s.length:Int)))=true) (need ((decide (vi1 < (s.length:Int)))=true->0<=vi1/\vi1 < (s.length:Int)) (need ((decide (vi1 < (s.length:Int)))=true->(decide (vi1 < (s.length:Int)))=true) (need ((decide (vi1 < (s.length:Int)))=true->(decide (vi1 < (s.length:Int)))=true) (need (((decide (vi1 < (s.length:Int)))&&(decide (((s.getD (vi1).toNat 0).toNat:Int)>=(33:Int))))=true->((decide (vi1 < (s.length:Int)))&&(decide (((s.getD (vi1).toNat 0).toNat:Int)>=(33:Int))))=true) (need (((decide (vi1 < (s.length:Int)))&&(decide (((s.getD (vi1).toNat 0).toNat:Int)>=(33:Int))))=true->((decide (vi1 < (s.length:Int)))&&(decide (((s.getD (vi1).toNat 0).toNat:Int)>=(33:Int))))=true) (need (((decide (vi1 < (s.length:Int)))&&(decide (((s.getD (vi1).toNat 0).toNat:Int)>=(33:Int))))=true->0<=vi1/\vi1 < (s.length:Int)) (need (((decide (vi1 < (s.length:Int)))&&(decide (((s.getD (vi1).toNat 0).toNat:Int)>=(33:Int))))=true->((decide (vi1 < (s.length:Int)))&&(decide (((s.getD (vi1).toNat 0).toNat:Int)>=(33:Int))))=true) (need (((decide (vi1 < (s.length:Int)))&&(decide (((s.getD (vi1).toNat 0).toNat:Int)>=(33:Int))))=true->((decide (vi1 < (s.length:Int)))&&(decide (((s.getD (vi1).toNat 0).toNat:Int)>=(33:Int))))=true) (need ((((decide (vi1 < (s.length:Int)))&&(decide (((s.getD (vi1).toNat 0).toNat:Int)>=(33:Int))))&&(decide (((s.getD (vi1).toNat 0).toNat:Int)<=(126:Int))))=true->(((decide (vi1 < (s.length:Int)))&&(decide (((s.getD (vi1).toNat 0).toNat:Int)>=(33:Int))))&&(decide (((s.getD (vi1).toNat 0).toNat:Int)<=(126:Int))))=true) (need ((((decide (vi1 < (s.length:Int)))&&(decide (((s.getD (vi1).toNat 0).toNat:Int)>=(33:Int))))&&(decide (((s.getD (vi1).toNat 0).toNat:Int)<=(126:Int))))=true->(((decide (vi1 < (s.length:Int)))&&(decide (((s.getD (vi1).toNat 0).toNat:Int)>=(33:Int))))&&(decide (((s.getD (vi1).toNat 0).toNat:Int)<=(126:Int))))=true) (need ((((decide (vi1 < (s.length:Int)))&&(decide (((s.getD (vi1).toNat 0).toNat:Int)>=(33:Int))))&&(decide (((s.getD (vi1).toNat 0).toNat:Int)<=(126:Int))))=true->0<=vi1/\vi1 < (s.length:Int)) (need ((((decide (vi1 < (s.length:Int)))&&(decide (((s.getD (vi1).toNat 0).toNat:Int)>=(33:Int))))&&(decide (((s.getD (vi1).toNat 0).toNat:Int)<=(126:Int))))=true->(((decide (vi1 < (s.length:Int)))&&(decide (((s.getD (vi1).toNat 0).toNat:Int)>=(33:Int))))&&(decide (((s.getD (vi1).toNat 0).toNat:Int)<=(126:Int))))=true) (need ((((decide (vi1 < (s.length:Int)))&&(decide (((s.getD (vi1).toNat 0).toNat:Int)>=(33:Int))))&&(decide (((s.getD (vi1).toNat 0).toNat:Int)<=(126:Int))))=true->(((decide (vi1 < (s.length:Int)))&&(decide (((s.getD (vi1).toNat 0).toNat:Int)>=(33:Int))))&&(decide (((s.getD (vi1).toNat 0).toNat:Int)<=(126:Int))))=true) (Bwrun_2 F f1 s vi1 ((((decide (vi1 < (s.length:Int)))&&(decide (((s.getD (vi1).toNat 0).toNat:Int)>=(33:Int))))&&(decide (((s.getD (vi1).toNat 0).toNat:Int)<=(126:Int))))&&(((s.getD (vi1).toNat 0).toNat:Int) != (63:Int)))))))))))))))))) by kernel_rfl) (need_strike (show (decide (vi1 < (s.length:Int)))=true->(decide (vi1 < (s.length:Int)))=true from (fun q0=>q0)) (need_strike (show (decide (vi1 < (s.length:Int)))=true->(decide (vi1 < (s.length:Int)))=true from (fun q0=>q0)) (need_congr (need_strike (show (decide (vi1 < (s.length:Int)))=true->(decide (vi1 < (s.length:Int)))=true from (fun q0=>q0)) (need_strike (show (decide (vi1 < (s.length:Int)))=true->(decide (vi1 < (s.length:Int)))=true from (fun q0=>q0)) (need_strike (show ((decide (vi1 < (s.length:Int)))&&(decide (((s.getD (vi1).toNat 0).toNat:Int)>=(33:Int))))=true->((decide (vi1 < (s.length:Int)))&&(decide (((s.getD (vi1).toNat 0).toNat:Int)>=(33:Int))))=true from (fun q0=>q0)) (need_strike (show ((decide (vi1 < (s.length:Int)))&&(decide (((s.getD (vi1).toNat 0).toNat:Int)>=(33:Int))))=true->((decide (vi1 < (s.length:Int)))&&(decide (((s.getD (vi1).toNat 0).toNat:Int)>=(33:Int))))=true from (fun q0=>q0)) (need_congr (need_strike (show ((decide (vi1 < (s.length:Int)))&&(decide (((s.getD (vi1).toNat 0).toNat:Int)>=(33:Int))))=true->((decide (vi1 < (s.length:Int)))&&(decide (((s.getD (vi1).toNat 0).toNat:Int)>=(33:Int))))=true from (fun q0=>q0)) (need_strike (show ((decide (vi1 < (s.length:Int)))&&(decide (((s.getD (vi1).toNat 0).toNat:Int)>=(33:Int))))=true->((decide (vi1 < (s.length:Int)))&&(decide (((s.getD (vi1).toNat 0).toNat:Int)>=(33:Int))))=true from (fun q0=>q0)) (need_strike (show (((decide (vi1 < (s.length:Int)))&&(decide (((s.getD (vi1).toNat 0).toNat:Int)>=(33:Int))))&&(decide (((s.getD (vi1).toNat 0).toNat:Int)<=(126:Int))))=true->(((decide (vi1 < (s.length:Int)))&&(decide (((s.getD (vi1).toNat 0).toNat:Int)>=(33:Int))))&&(decide (((s.getD (vi1).toNat 0).toNat:Int)<=(126:Int))))=true from (fun q0=>q0)) (need_strike (show (((decide (vi1 < (s.length:Int)))&&(decide (((s.getD (vi1).toNat 0).toNat:Int)>=(33:Int))))&&(decide (((s.getD (vi1).toNat 0).toNat:Int)<=(126:Int))))=true->(((decide (vi1 < (s.length:Int)))&&(decide (((s.getD (vi1).toNat 0).toNat:Int)>=(33:Int))))&&(decide (((s.getD (vi1).toNat 0).toNat:Int)<=(126:Int))))=true from (fun q0=>q0)) (need_congr (need_strike (show (((decide (vi1 < (s.length:Int)))&&(decide (((s.getD (vi1).toNat 0).toNat:Int)>=(33:Int))))&&(decide (((s.getD (vi1).toNat 0).toNat:Int)<=(126:Int))))=true->(((decide (vi1 < (s.length:Int)))&&(decide (((s.getD (vi1).toNat 0).toNat:Int)>=(33:Int))))&&(decide (((s.getD (vi1).toNat 0).toNat:Int)<=(126:Int))))=true from (fun q0=>q0)) (need_strike (show (((decide (vi1 < (s.length:Int)))&&(decide (((s.getD (vi1).toNat 0).toNat:Int)>=(33:Int))))&&(decide (((s.getD (vi1).toNat 0).toNat:Int)<=(126:Int))))=true->(((decide (vi1 < (s.length:Int)))&&(decide (((s.getD (vi1).toNat 0).toNat:Int)>=(33:Int))))&&(decide (((s.getD (vi1).toNat 0).toNat:Int)<=(126:Int))))=true from (fun q0=>q0)) (rfl))))))))))))))))
theorem Bwrun_2_eq (F f1:Nat) (s:List UInt8) (vi1:Int) (vc2:Bool):Bwrun_2 F f1 s vi1 vc2=cond (vc2) (need (i64ok (vi1+(1:Int))) (Bwrun_1 F f1 s (vi1+(1:Int)))) (some (.p (.int .i64 vi1),[])):=by kernel_rfl
theorem Fwrun_eq (F:Nat) (s:List UInt8) (i:Int):Fwrun F s i=Bwrun_1 F F s i:=by kernel_rfl
theorem fn_wrun (F:Nat) (s:List UInt8) (i:Int) (r:AV) (h:(∃ M vs,ARels γ0 M [.p (.str s),.p (.int .i64 i)] vs)->Fwrun F s i=some (r,[])):FnP Tryz.prog 113 [.p (.str s),.p (.int .i64 i)] r:=
 FnP_run Gwrun F rfl (EnvOk_mk (l:=[]) trivial) (EnvROk_mk (l:=[]) trivial) (Checked.mixed Tryz.checked) (fn:=Tryz.f113) (by kernel_rfl) (by kernel_rfl) rfl h
noncomputable def cwbl:Code:=bodyOf Tryz.f81
noncomputable def Gwbl:Cfg:=⟨Tryz.prog,mkEnv [],mkEnvR [],24,[],[([0,0,1],⟨[0,1],[]⟩),([1,0,0,0,0,1],⟨[0,1,20],[]⟩)],[]⟩
noncomputable def Bwbl_1 (F f1:Nat) (s:List UInt8) (vi1:Int):Option Ans:=runR Gwbl cwbl (kP Tryz.prog Tryz.f81.results.toList) F [] [1,0,0] f1 [(0,.p (.str s)),(1,.p (.int .i64 vi1))] []
noncomputable def Bwbl_2 (F f1:Nat) (s:List UInt8) (vi1:Int) (vc2:Bool):Option Ans:=runB Gwbl cwbl (kP Tryz.prog Tryz.f81.results.toList) F [f1] [1,0,0,0,0,1] [(0,.p (.str s)),(1,.p (.int .i64 vi1)),(20,.p (.bool vc2))] []
noncomputable def Fwbl (F:Nat) (s:List UInt8) (i:Int):Option Ans:=runF Gwbl Tryz.f81 F [.p (.str s),.p (.int .i64 i)]
theorem Bwbl_1_eq (F f1:Nat) (s:List UInt8) (vi1:Int):Bwbl_1 F (f1+1) s vi1=need ((decide (vi1 < (s.length:Int)))=true->0<=vi1/\vi1 < (s.length:Int)) (need (((decide (vi1 < (s.length:Int)))&&(!(((s.getD (vi1).toNat 0).toNat:Int)==(32:Int))))=true->0<=vi1/\vi1 < (s.length:Int)) (Bwbl_2 F f1 s vi1 ((decide (vi1 < (s.length:Int)))&&((((s.getD (vi1).toNat 0).toNat:Int)==(32:Int))||(((s.getD (vi1).toNat 0).toNat:Int)==(9:Int)))))):=
 Eq.trans (show Bwbl_1 F (f1+1) s vi1=need ((decide (vi1 < (s.length:Int)))=true->(decide (vi1 < (s.length:Int)))=true) (need ((decide (vi1 < (s.length:Int)))=true->(decide (vi1 < (s.length:Int)))=true) (need ((decide (vi1 < (s.length:Int)))=true->0<=vi1/\vi1 < (s.length:Int)) (need ((decide (vi1 < (s.length:Int)))=true->(decide (vi1 < (s.length:Int)))=true) (need ((decide (vi1 < (s.length:Int)))=true->(decide (vi1 < (s.length:Int)))=true) (need (((decide (vi1 < (s.length:Int)))&&(!(((s.getD (vi1).toNat 0).toNat:Int)==(32:Int))))=true->((decide (vi1 < (s.length:Int)))&&(!(((s.getD (vi1).toNat 0).toNat:Int)==(32:Int))))=true) (need (((decide (vi1 < (s.length:Int)))&&(!(((s.getD (vi1).toNat 0).toNat:Int)==(32:Int))))=true->((decide (vi1 < (s.length:Int)))&&(!(((s.getD (vi1).toNat 0).toNat:Int)==(32:Int))))=true) (need (((decide (vi1 < (s.length:Int)))&&(!(((s.getD (vi1).toNat 0).toNat:Int)==(32:Int))))=true->0<=vi1/\vi1 < (s.length:Int)) (need (((decide (vi1 < (s.length:Int)))&&(!(((s.getD (vi1).toNat 0).toNat:Int)==(32:Int))))=true->((decide (vi1 < (s.length:Int)))&&(!(((s.getD (vi1).toNat 0).toNat:Int)==(32:Int))))=true) (need ((decide (vi1 < (s.length:Int)))=true->(decide (vi1 < (s.length:Int)))=true) (need ((decide (vi1 < (s.length:Int)))=true->(((s.getD (vi1).toNat 0).toNat:Int)==(32:Int))=false->((decide (vi1 < (s.length:Int)))&&(!(((s.getD (vi1).toNat 0).toNat:Int)==(32:Int))))=true) (need ((decide (vi1 < (s.length:Int)))=true->(decide (vi1 < (s.length:Int)))=true) (Bwbl_2 F f1 s vi1 ((decide (vi1 < (s.length:Int)))&&((((s.getD (vi1).toNat 0).toNat:Int)==(32:Int))||(((s.getD (vi1).toNat 0).toNat:Int)==(9:Int)))))))))))))))) by kernel_rfl) (need_strike (show (decide (vi1 < (s.length:Int)))=true->(decide (vi1 < (s.length:Int)))=true from (fun q0=>q0)) (need_strike (show (decide (vi1 < (s.length:Int)))=true->(decide (vi1 < (s.length:Int)))=true from (fun q0=>q0)) (need_congr (need_strike (show (decide (vi1 < (s.length:Int)))=true->(decide (vi1 < (s.length:Int)))=true from (fun q0=>q0)) (need_strike (show (decide (vi1 < (s.length:Int)))=true->(decide (vi1 < (s.length:Int)))=true from (fun q0=>q0)) (need_strike (show ((decide (vi1 < (s.length:Int)))&&(!(((s.getD (vi1).toNat 0).toNat:Int)==(32:Int))))=true->((decide (vi1 < (s.length:Int)))&&(!(((s.getD (vi1).toNat 0).toNat:Int)==(32:Int))))=true from (fun q0=>q0)) (need_strike (show ((decide (vi1 < (s.length:Int)))&&(!(((s.getD (vi1).toNat 0).toNat:Int)==(32:Int))))=true->((decide (vi1 < (s.length:Int)))&&(!(((s.getD (vi1).toNat 0).toNat:Int)==(32:Int))))=true from (fun q0=>q0)) (need_congr (need_strike (show ((decide (vi1 < (s.length:Int)))&&(!(((s.getD (vi1).toNat 0).toNat:Int)==(32:Int))))=true->((decide (vi1 < (s.length:Int)))&&(!(((s.getD (vi1).toNat 0).toNat:Int)==(32:Int))))=true from (fun q0=>q0)) (need_strike (show (decide (vi1 < (s.length:Int)))=true->(decide (vi1 < (s.length:Int)))=true from (fun q0=>q0)) (need_strike (show (decide (vi1 < (s.length:Int)))=true->(((s.getD (vi1).toNat 0).toNat:Int)==(32:Int))=false->((decide (vi1 < (s.length:Int)))&&(!(((s.getD (vi1).toNat 0).toNat:Int)==(32:Int))))=true from (fun q0 q1=>(and_mk q0 (not_mk q1)))) (need_strike (show (decide (vi1 < (s.length:Int)))=true->(decide (vi1 < (s.length:Int)))=true from (fun q0=>q0)) (rfl)))))))))))))
theorem Bwbl_2_eq (F f1:Nat) (s:List UInt8) (vi1:Int) (vc2:Bool):Bwbl_2 F f1 s vi1 vc2=cond (vc2) (need (i64ok (vi1+(1:Int))) (Bwbl_1 F f1 s (vi1+(1:Int)))) (some (.p (.int .i64 vi1),[])):=by kernel_rfl
theorem Fwbl_eq (F:Nat) (s:List UInt8) (i:Int):Fwbl F s i=Bwbl_1 F F s i:=by kernel_rfl
theorem fn_wbl (F:Nat) (s:List UInt8) (i:Int) (r:AV) (h:(∃ M vs,ARels γ0 M [.p (.str s),.p (.int .i64 i)] vs)->Fwbl F s i=some (r,[])):FnP Tryz.prog 81 [.p (.str s),.p (.int .i64 i)] r:=
 FnP_run Gwbl F rfl (EnvOk_mk (l:=[]) trivial) (EnvROk_mk (l:=[]) trivial) (Checked.mixed Tryz.checked) (fn:=Tryz.f81) (by kernel_rfl) (by kernel_rfl) rfl h
theorem inW_dec (i:Int) (n:Nat) (c:UInt8) (h:i < (n:Int)):((((decide (i < (n:Int)))&&(decide ((c.toNat:Int)>=(33:Int))))&&(decide ((c.toNat:Int)<=(126:Int))))&&((c.toNat:Int) != (63:Int)))=inW c:=by
 rw [show decide (i < (n:Int))=true by simpa using h,Bool.true_and]
 unfold inW
 congr 1
 .congr 1
  .exact decide_eq_decide.2 (by omega)
  .exact decide_eq_decide.2 (by omega)
 .by_cases e:c.toNat=63
  .rw [e]; rfl
  .rw [show decide (c.toNat≠63)=true by simpa using e]
   simp; omega
theorem Bwrun_spec (F:Nat) (s:List UInt8) (hs:s.length<=1000000):∀ (r:List UInt8) (f i:Nat),s.drop i=r->r.length < f->i<=s.length->
 Bwrun_1 F f s (i:Int)=some (.p (.int .i64 ((i+(r.takeWhile inW).length:Nat):Int)),[]):=by
 intro r
 induction r with
 | nil=>
  intro f i hd hf hi
  have:i=s.length:=by have:=congrArg List.length hd; simp at this; omega
  cases f with
  | zero=>omega
  | succ f=>
   have hd:decide ((i:Int) < (s.length:Int))=false:=by simp; omega
   rw [Bwrun_1_eq,hd]
   simp only [Bool.false_and]
   refine need_mk (fun h=>by cases h) (need_mk (fun h=>by cases h) (need_mk (fun h=>by cases h) ?_))
   rw [Bwrun_2_eq]
   exact cond_f rfl rfl
 | cons c r ih=>
  intro f i hd hf hi
  obtain ⟨h1,h2,h3⟩:=drop_cons hd
  cases f with
  | zero=>omega
  | succ f=>
   rw [Bwrun_1_eq]
   refine need_mk (fun _=>by omega) (need_mk (fun _=>by omega) (need_mk (fun _=>by omega) ?_))
   rw [Int.toNat_natCast,h1,inW_dec _ _ _ (by omega),Bwrun_2_eq,List.takeWhile_cons]
   by_cases hw:inW c=true
   .refine cond_t hw ?_
    refine need_mk (by first | omega | (unfold i64ok; omega) | (simp only [List.length_cons,List.length_nil]; omega) | (simp; omega) | simp) ?_
    have e:(i:Int)+1=((i+1:Nat):Int):=by omega
    rw [e,ih f (i+1) h2 (by simp at hf; omega) (by omega),if_pos hw]
    congr 5
    simp only [List.length_cons]; omega
   .refine cond_f (by simpa using hw) ?_
    rw [if_neg hw]; rfl
theorem wrun_eq (s:List UInt8) (i:Int) (h:wposok s i):Fwrun (s.length+1) s i=some (.p (.int .i64 (runS s i)),[]):=by
 obtain ⟨h0,h1,h2⟩:=h
 obtain ⟨i,rfl⟩:=Int.eq_ofNat_of_zero_le h0
 rw [Fwrun_eq]
 exact Bwrun_spec _ s (by omega) _ (s.length+1) i rfl (by simp; omega) (by omega)
def sp_wrun:List AV->Option (AV×Option Prop)
 | [.p (.str s),.p (.int .i64 i)]=>some (.p (.int .i64 (runS s i)),some (wposok s i))
 | _=>none
theorem ok_wrun:SpecOk Tryz.prog 113 sp_wrun:=by
 intro zs r ok he hok
 unfold sp_wrun at he
 split at he
 .cases he; exact ⟨by kernel_rfl,fn_wrun (_) _ _ _ fun hx=>wrun_eq _ _ hok⟩
 .cases he
theorem isBl_dec (c:UInt8):(((c.toNat:Int)==(32:Int))||((c.toNat:Int)==(9:Int)))=isBl c:=by
 unfold isBl
 have e:∀ d:UInt8,((c.toNat:Int)==(d.toNat:Int))=(c==d):=fun d=>by
  rw [Bool.eq_iff_iff]; simp only [beq_iff_eq]; exact u8_eq
 rw [<-e 32,<-e 9]; rfl
theorem Bwbl_spec (F:Nat) (s:List UInt8) (hs:s.length<=1000000):∀ (r:List UInt8) (f i:Nat),s.drop i=r->r.length < f->i<=s.length->
 Bwbl_1 F f s (i:Int)=some (.p (.int .i64 ((i+(r.takeWhile isBl).length:Nat):Int)),[]):=by
 intro r
 induction r with
 | nil=>
  intro f i hd hf hi
  have:i=s.length:=by have:=congrArg List.length hd; simp at this; omega
  cases f with
  | zero=>omega
  | succ f=>
   have hd:decide ((i:Int) < (s.length:Int))=false:=by simp; omega
   rw [Bwbl_1_eq,hd]
   simp only [Bool.false_and]
   refine need_mk (fun h=>by cases h) (need_mk (fun h=>by cases h) ?_)
   rw [Bwbl_2_eq]
   exact cond_f rfl rfl
 | cons c r ih=>
  intro f i hd hf hi
  obtain ⟨h1,h2,h3⟩:=drop_cons hd
  cases f with
  | zero=>omega
  | succ f=>
   have ht:decide ((i:Int) < (s.length:Int))=true:=by simp; omega
   rw [Bwbl_1_eq]
   refine need_mk (fun _=>by omega) (need_mk (fun _=>by omega) ?_)
   rw [Int.toNat_natCast,h1,isBl_dec,ht,Bool.true_and,Bwbl_2_eq,List.takeWhile_cons]
   by_cases hw:isBl c=true
   .refine cond_t hw ?_
    refine need_mk (by first | omega | (unfold i64ok; omega) | (simp only [List.length_cons,List.length_nil]; omega) | (simp; omega) | simp) ?_
    have e:(i:Int)+1=((i+1:Nat):Int):=by omega
    rw [e,ih f (i+1) h2 (by simp at hf; omega) (by omega),if_pos hw]
    congr 5
    simp only [List.length_cons]; omega
   .refine cond_f (by simpa using hw) ?_
    rw [if_neg hw]; rfl
theorem wbl_eq (s:List UInt8) (i:Int) (h:wposok s i):Fwbl (s.length+1) s i=some (.p (.int .i64 (blankS s i)),[]):=by
 obtain ⟨h0,h1,h2⟩:=h
 obtain ⟨i,rfl⟩:=Int.eq_ofNat_of_zero_le h0
 rw [Fwbl_eq]
 exact Bwbl_spec _ s (by omega) _ (s.length+1) i rfl (by simp; omega) (by omega)
def sp_wbl:List AV->Option (AV×Option Prop)
 | [.p (.str s),.p (.int .i64 i)]=>some (.p (.int .i64 (blankS s i)),some (wposok s i))
 | _=>none
theorem ok_wbl:SpecOk Tryz.prog 81 sp_wbl:=by
 intro zs r ok he hok
 unfold sp_wbl at he
 split at he
 .cases he; exact ⟨by kernel_rfl,fn_wbl (_) _ _ _ fun hx=>wbl_eq _ _ hok⟩
 .cases he
noncomputable def csays:Code:=bodyOf Tryz.f117
noncomputable def Gsays:Cfg:=⟨Tryz.prog,mkEnv [(27,sp_Fold),(75,sp_uvalid),(77,sp_Put)],mkEnvR [(76,sp_wstr),(78,sp_bstr)],31,[],[([1,0,1,0,1],⟨[1,9,10],[]⟩),([0,1,0,1,0,1,1,1,0,1,0,1],⟨[1,6,19,20],[⟨.slot 6,6,.cells []⟩,⟨.cell 6 1,7001,(.barr 5 false [])⟩]⟩)],[([1,0,0,1,1,0,0,1,0,1,0,1,1,1,0,1,0,1],[5]),([0,1,1,0,1,1,1,0,1,0,1],[0])]⟩
noncomputable def Bsays_1 (F:Nat) (b vs1:List UInt8) (vc2:Bool):Option Ans:=runB Gsays csays (kP Tryz.prog Tryz.f117.results.toList) F [] [1,0,1,0,1] [(1,.p (.str b)),(9,.p (.str vs1)),(10,.p (.bool vc2))] []
noncomputable def Bsays_2 (F f1:Nat) (b:List UInt8) (vi3 vi4:Int) (vb5:List UInt8):Option Ans:=runR Gsays csays (kP Tryz.prog Tryz.f117.results.toList) F [] [1,0,1,0,1,1,1,0,1,0,1,0] f1 [(1,.p (.str b)),(6,.ref 6 0),(19,.p (.int .i64 vi3)),(20,.p (.int .i64 vi4))] [(6,.bldr 124 (.arr 7001)),(7001,.barr 5 false vb5)]
noncomputable def Fsays (F:Nat) (s b:List UInt8):Option Ans:=runF Gsays Tryz.f117 F [.p (.str s),.p (.str b)]
theorem Bsays_1_eq (F:Nat) (b vs1:List UInt8) (vc2:Bool):Bsays_1 F b vs1 vc2=cond (vc2) (need (b.length<=1000000) (some (.tup [.p (.str b),.p (.bool (validS b))],[]))) (cond (vs1==([105,115,111,45,56,56,53,57,45,49]:List UInt8)) (Bsays_2 F F b (b.length:Int) (0:Int) []) (some (.tup [.p (.str ([]:List UInt8)),.p (.bool false)],[]))):=by kernel_rfl
theorem Bsays_2_eq (F f1:Nat) (b:List UInt8) (vi3 vi4:Int) (vb5:List UInt8):Bsays_2 F (f1+1) b vi3 vi4 vb5=cond (decide (vi4 < vi3)) (need (0<=vi4/\vi4 < (b.length:Int)) (need (-1000000000000<=((b.getD (vi4).toNat 0).toNat:Int)/\((b.getD (vi4).toNat 0).toNat:Int)<=1000000000000) (need (vb5.length+(putS ((b.getD (vi4).toNat 0).toNat:Int)).length<=140737488355328) (need (i64ok (vi4+(1:Int))) (Bsays_2 F f1 b vi3 (vi4+(1:Int)) (vb5++(putS ((b.getD (vi4).toNat 0).toNat:Int)))))))) (some (.tup [.p (.str vb5),.p (.bool true)],[])):=by kernel_rfl
theorem Fsays_eq (F:Nat) (s b:List UInt8):Fsays F s b=need (s.length<=140737488355328) (cond ((foldS s)==([117,116,102,45,56]:List UInt8)) (Bsays_1 F b (foldS s) ((foldS s)==([117,116,102,45,56]:List UInt8))) (Bsays_1 F b (foldS s) ((foldS s)==([117,115,45,97,115,99,105,105]:List UInt8)))):=by kernel_rfl
theorem fn_says (F:Nat) (s b:List UInt8) (r:AV) (h:(∃ M vs,ARels γ0 M [.p (.str s),.p (.str b)] vs)->Fsays F s b=some (r,[])):FnP Tryz.prog 117 [.p (.str s),.p (.str b)] r:=
 FnP_run Gsays F rfl (EnvOk_mk (l:=[(27,sp_Fold),(75,sp_uvalid),(77,sp_Put)]) ⟨ok_Fold.any,ok_uvalid.any,ok_Put.any,trivial⟩) (EnvROk_mk (l:=[(76,sp_wstr),(78,sp_bstr)]) ⟨ok_wstr,ok_bstr,trivial⟩) (Checked.mixed Tryz.checked) (fn:=Tryz.f117) (by kernel_rfl) (by kernel_rfl) rfl h
abbrev cUtf8:List UInt8:=[117,116,102,45,56]
abbrev cAscii:List UInt8:=[117,115,45,97,115,99,105,105]
abbrev cIso:List UInt8:=[105,115,111,45,56,56,53,57,45,49]
def saysS (s b:List UInt8):List UInt8×Bool:=
 if foldS s=cUtf8\/foldS s=cAscii then (b,validS b) else if foldS s=cIso then (bytesS b,true) else ([],false)
def saysT (p:List UInt8×Bool):AV:=.tup [.p (.str p.1),.p (.bool p.2)]
theorem Bsays_spec (F:Nat) (s:List UInt8) (hs:s.length<=1000000):∀ (r:List UInt8) (f i:Nat) (acc:List UInt8),s.drop i=r->acc.length<=4 * i->r.length < f->i<=s.length->
 Bsays_2 F f s (s.length:Int) (i:Int) acc=some (saysT (acc++bytesS r,true),[]):=by
 intro r
 induction r with
 | nil=>
  intro f i acc hd ha hf hi
  have:i=s.length:=by have:=congrArg List.length hd; simp at this; omega
  cases f with
  | zero=>omega
  | succ f=>
   rw [Bsays_2_eq]
   refine cond_f (by first | omega | (unfold i64ok; omega) | (simp only [List.length_cons,List.length_nil]; omega) | (simp; omega) | simp) ?_
   simp [bytesS,saysT]
 | cons c r ih=>
  intro f i acc hd ha hf hi
  obtain ⟨h1,h2,h3⟩:=drop_cons hd
  cases f with
  | zero=>omega
  | succ f=>
   have hlt:=c.toNat_lt
   have hl:=putS_len (c.toNat:Int)
   rw [Bsays_2_eq]
   refine cond_t (by first | omega | (unfold i64ok; omega) | (simp only [List.length_cons,List.length_nil]; omega) | (simp; omega) | simp) ?_
   refine need_mk (by first | omega | (unfold i64ok; omega) | (simp only [List.length_cons,List.length_nil]; omega) | (simp; omega) | simp) ?_
   rw [Int.toNat_natCast,h1]
   refine need_mk (by first | omega | (unfold i64ok; omega) | (simp only [List.length_cons,List.length_nil]; omega) | (simp; omega) | simp) ?_
   refine need_mk (by omega) ?_
   refine need_mk (by first | omega | (unfold i64ok; omega) | (simp only [List.length_cons,List.length_nil]; omega) | (simp; omega) | simp) ?_
   have e:(i:Int)+1=((i+1:Nat):Int):=by omega
   rw [e,ih f (i+1) _ h2 (by simp; omega) (by simp at hf; omega) (by omega)]
   simp [bytesS]
theorem says_eq (s b:List UInt8) (h:s.length<=1000000/\b.length<=1000000):Fsays (b.length+1) s b=some (saysT (saysS s b),[]):=by
 rw [Fsays_eq,saysS]
 refine need_mk (by have:=h.1; omega) ?_
 generalize foldS s=q
 have hyes:q=cUtf8\/q=cAscii->Bsays_1 (b.length+1) b q true=some (saysT (if q=cUtf8\/q=cAscii then (b,validS b) else if q=cIso then (bytesS b,true) else ([],false)),[]):=fun hq=>by
  rw [Bsays_1_eq,if_pos hq]
  exact cond_t rfl (need_mk h.2 rfl)
 have hno:¬ (q=cUtf8\/q=cAscii)->Bsays_1 (b.length+1) b q false=some (saysT (if q=cUtf8\/q=cAscii then (b,validS b) else if q=cIso then (bytesS b,true) else ([],false)),[]):=fun hq=>by
  rw [Bsays_1_eq,if_neg hq]
  refine cond_f rfl ?_
  by_cases hi:q=cIso
  .refine cond_t (by rw [hi]; rfl) ?_
   rw [if_pos hi]
   exact Bsays_spec _ b h.2 b (b.length+1) 0 [] rfl (by simp) (by omega) (by omega)
  .refine cond_f (by simpa using hi) ?_
   rw [if_neg hi]; rfl
 by_cases h1:q=cUtf8
 .refine cond_t (by rw [h1]; rfl) ?_
  rw [show (q==([117,116,102,45,56]:List UInt8))=true by rw [h1]; rfl]
  exact hyes (.inl h1)
 .refine cond_f (by simpa using h1) ?_
  by_cases h2:q=cAscii
  .rw [show (q==([117,115,45,97,115,99,105,105]:List UInt8))=true by rw [h2]; rfl]
   exact hyes (.inr h2)
  .rw [show (q==([117,115,45,97,115,99,105,105]:List UInt8))=false by simpa using h2]
   exact hno (fun h=>h.elim h1 h2)
def sp_says:List AV->Option (AV×Option Prop)
 | [.p (.str s),.p (.str b)]=>some (.tup [.p (.str ((saysS s b).1)),.p (.bool ((saysS s b).2))],some (s.length<=1000000/\b.length<=1000000))
 | _=>none
theorem ok_says:SpecOk Tryz.prog 117 sp_says:=by
 intro zs r ok he hok
 unfold sp_says at he
 split at he
 .cases he; exact ⟨by kernel_rfl,fn_says (_) _ _ _ fun hx=>says_eq _ _ hok⟩
 .cases he
end Go.Proofs.YtampckbjinodgaaGreatDoor
namespace Go.Proofs.YtampckbjinodgaaGreatDoor
def LB_7543b37f:List UInt8:=[65,66,67,68,69,70,71,72,73,74,75,76,77,78,79,80,81,82,83,84,85,86,87,88,89,90,97,98,99,100,101,102,103,104,105,106,107,108,109,110,111,112,113,114,115,116,117,118,119,120,121,122,48,49,50,51,52,53,54,55,56,57,43,47]
end Go.Proofs.YtampckbjinodgaaGreatDoor
namespace Go.Proofs.YtampckbjinodgaaGreatDoor
open Go Go.Am
set_option linter.unusedVariables false
theorem alpha_len:LB_7543b37f.length=64:=by decide
end Go.Proofs.YtampckbjinodgaaGreatDoor
namespace Go.Proofs.YtampckbjinodgaaGreatDoor
open Go Go.Am
set_option linter.unusedVariables false
end Go.Proofs.YtampckbjinodgaaGreatDoor
namespace Go.Proofs.YtampckbjinodgaaGreatDoor
open Go Go.Am
set_option linter.unusedVariables false
def Fixb (fuel:Nat) (s:List UInt8) (c:Int):Option Int:=some (ixS s c)
noncomputable def cixb:Code:=bodyOf Tryz.f74
def envixb:Env:=mkEnv [(108,sp_ixbl)]
theorem envixb_ok:EnvOk Tryz.prog envixb:=EnvOk_mk ⟨ok_ixbl.any,trivial⟩
theorem Tixb (fuel:Nat) (s:List UInt8) (c res:Int) (h:Fixb fuel s c=some res) (C:Ctx) (hC:CtxOk C 8 []):
 T Tryz.prog C (at_ cixb []) (mkS [(0,.p (.str s)),(1,.p (.int .u8 c))] []) (Qend Tryz.prog C Tryz.f74.results.toList (.p (.int .i64 res))):=by
 have henv:=envixb_ok
 unfold Fixb at h
 refine T_seqp (p:=[]) (by kernel_rfl) ?_
 refine T_reg henv hC [] [(0,.p (.str s)),(1,.p (.int .u8 c))] [] [] (by kernel_rfl) (by kernel_rfl) trivial (fun s1 hs1=>?_)
 refine (T.weaken ?_ hs1:T Tryz.prog C (at_ cixb [1]) _ _)
 refine T_seqp (p:=[1]) (by kernel_rfl) ?_
 refine T_reg henv hC [] [(4,.p (.int .i64 (ixS s c)))] [] [] (by kernel_rfl) (by kernel_rfl) trivial (fun s1 hs1=>?_)
 refine (T.weaken ?_ hs1:T Tryz.prog C (at_ cixb [1,1]) _ _)
 refine T_retp (p:=[1,1]) (by kernel_rfl) ?_
 have h:=Option.some.inj h; subst h
 exact ⟨mkS [(4,.p (.int .i64 (ixS s c)))] [],(Sub.refl _),by kernel_rfl⟩
theorem fn_ixb (fuel:Nat) (s:List UInt8) (c res:Int) (h:(∃ M vs,ARels γ0 M [.p (.str s),.p (.int .u8 c)] vs)->Fixb fuel s c=some res):FnP Tryz.prog 74 [.p (.str s),.p (.int .u8 c)] (.p (.int .i64 res)):=
 FnP_lift (fn:=Tryz.f74) (by kernel_rfl) (by kernel_rfl) fun M vs hvs C hC0=>have hC:CtxOk C 8 []:=⟨hC0.nt.trans (by kernel_rfl),hC0.fx⟩; T.weaken (Tixb fuel s c res (h ⟨M,vs,hvs⟩) C hC) (sinit_sub hC (by kernel_rfl) (by kernel_rfl))
def sp_ixb:List AV->Option (AV×Option Prop):=sp_extib
theorem ok_ixb:SpecOk Tryz.prog 74 sp_ixb:=by
 intro zs r ok h hok
 unfold sp_ixb sp_extib at h
 split at h
 .cases h; exact ⟨by kernel_rfl,fn_ixb 0 _ _ _ fun _=>rfl⟩
 .cases h
end Go.Proofs.YtampckbjinodgaaGreatDoor
