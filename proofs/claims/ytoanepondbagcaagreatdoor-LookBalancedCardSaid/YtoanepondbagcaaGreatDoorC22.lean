/-
  Lifted functions, and facts about them.
-/
import Derived.Test.YtoanepondbagcaaGreatDoorRows
import Derived.Test.YtoanepondbagcaaGreatDoorAmC
import Derived.Test.YtoanepondbagcaaGreatDoorC01
import Derived.Test.YtoanepondbagcaaGreatDoorC21
import Derived.Test.YtoanepondbagcaaGreatDoorC08
namespace Go.Proofs.YtoanepondbagcaaGreatDoor
open Go Go.Am
set_option linter.unusedVariables false
def sufS (s p:List UInt8):List UInt8×Bool:=if hasSuf s p=true then (s.take (s.length - p.length),true) else (s,false)
def sp_csl:List AV->Option (AV×Option Prop)
 | [.p (.str s),.p (.str p)]=>some (.tup [.p (.str ((sufS s p).1)),.p (.bool ((sufS s p).2))],some (s.length<=1000000))
 | _=>none
def numL:List UInt8->Nat->Option Nat
 | [],n=>some n
 | c::r,n=>if c.toNat < 48\/57 < c.toNat then none else numL r (n * 10+(c.toNat - 48))
def numE:Option Nat->Int×Bool
 | none=>(0,false)
 | some n=>if n > 4294967295 then (0,false) else ((n:Int),true)
def numS (s:List UInt8):Int×Bool:=if s=[]\/10 < s.length\/(s.getD 0 0=48/\1 < s.length) then (0,false) else numE (numL s 0)
def numT (p:Int×Bool):AV:=.tup [.p (.int .i64 p.1),.p (.bool p.2)]
theorem numE_big {n:Nat}:(cond (decide ((n:Int) > (4294967295:Int))) (some (.tup [.p (.int .i64 (0:Int)),.p (.bool false)],[])) (some (.tup [.p (.int .i64 (n:Int)),.p (.bool true)],[])):Option Ans)=some (numT (numE (some n)),[]):=by
 show _=some (numT (if n > 4294967295 then (0,false) else ((n:Int),true)),[])
 by_cases h:n > 4294967295
 .rw [if_pos h]; exact cond_t (by simp only [decide_eq_true_iff]; omega) rfl
 .rw [if_neg h]; exact cond_f (by simp only [decide_eq_false_iff_not]; omega) rfl
theorem digit_bad (c:UInt8):((decide ((c.toNat:Int) < (48:Int)))||(decide ((c.toNat:Int) > (57:Int))))=decide (c.toNat < 48\/57 < c.toNat):=by
 rw [Bool.decide_or]
 congr 1
 .exact decide_eq_decide.2 (by omega)
 .exact decide_eq_decide.2 (by omega)
theorem digit_val {c:UInt8} (h:¬ (c.toNat < 48\/57 < c.toNat)):IntKind.u8.wrap ((c.toNat:Int) - (48:Int))=((c.toNat - 48:Nat):Int):=by
 rw [u8_wrap]; omega
theorem num_nil (s:List UInt8):(s==([]:List UInt8))=decide (s=[]):=by cases s <;> rfl
def sp_number:List AV->Option (AV×Option Prop)
 | [.p (.str s)]=>some (.tup [.p (.int .i64 ((numS s).1)),.p (.bool ((numS s).2))],none)
 | _=>none
noncomputable def crnumber:Code:=bodyOf Tryz.f23
noncomputable def Grnumber:Cfg:=⟨Tryz.prog,mkEnv [],mkEnvR [],50,[],[([1,0,1],⟨[0,22],[]⟩),([0,1,0,1,1,1],⟨[0,4,5],[]⟩),([1,0,0,0,1,0,0,1,0,1,1,1],⟨[0,4,5,38],[]⟩)],[]⟩
noncomputable def Brnumber_1 (F:Nat) (s:List UInt8) (vc1:Bool):Option Ans:=runB Grnumber crnumber (kP Tryz.prog Tryz.f23.results.toList) F [] [1,0,1] [(0,.p (.str s)),(22,.p (.bool vc1))] []
noncomputable def Brnumber_2 (F f1:Nat) (s:List UInt8) (vi2 vi3:Int):Option Ans:=runR Grnumber crnumber (kP Tryz.prog Tryz.f23.results.toList) F [] [1,1,1,0,1,0] f1 [(0,.p (.str s)),(4,.p (.int .i64 vi2)),(5,.p (.int .i64 vi3))] []
noncomputable def Brnumber_3 (F f1:Nat) (s:List UInt8) (vi2 vi3:Int) (vc4:Bool):Option Ans:=runB Grnumber crnumber (kP Tryz.prog Tryz.f23.results.toList) F [f1] [1,1,1,0,1,0,0,1,0,0,0,1] [(0,.p (.str s)),(4,.p (.int .i64 vi2)),(5,.p (.int .i64 vi3)),(38,.p (.bool vc4))] []
noncomputable def Frnumber (F:Nat) (s:List UInt8):Option Ans:=runF Grnumber Tryz.f23 F [.p (.str s)]
theorem Brnumber_1_eq (F:Nat) (s:List UInt8) (vc1:Bool):Brnumber_1 F s vc1=cond (vc1) (some (.tup [.p (.int .i64 (0:Int)),.p (.bool false)],[])) (Brnumber_2 F F s (0:Int) (0:Int)):=by kernel_rfl
theorem Brnumber_2_eq (F f1:Nat) (s:List UInt8) (vi2 vi3:Int):Brnumber_2 F (f1+1) s vi2 vi3=cond (decide (vi3 < (s.length:Int))) (need (0<=vi3/\vi3 < (s.length:Int)) (((need ((!(decide (((s.getD (vi3).toNat 0).toNat:Int) < (48:Int))))=true->0<=vi3/\vi3 < (s.length:Int)) (((Brnumber_3 F f1 s vi2 vi3 ((decide (((s.getD (vi3).toNat 0).toNat:Int) < (48:Int)))||(decide (((s.getD (vi3).toNat 0).toNat:Int) > (57:Int))))))))))) (cond (decide (vi2 > (4294967295:Int))) (some (.tup [.p (.int .i64 (0:Int)),.p (.bool false)],[])) (some (.tup [.p (.int .i64 vi2),.p (.bool true)],[]))):=by
 have h:Brnumber_2 F (f1+1) s vi2 vi3=cond (decide (vi3 < (s.length:Int))) (need (0<=vi3/\vi3 < (s.length:Int)) (need ((!(decide (((s.getD (vi3).toNat 0).toNat:Int) < (48:Int))))=true->(!(decide (((s.getD (vi3).toNat 0).toNat:Int) < (48:Int))))=true) (need ((!(decide (((s.getD (vi3).toNat 0).toNat:Int) < (48:Int))))=true->(!(decide (((s.getD (vi3).toNat 0).toNat:Int) < (48:Int))))=true) (need ((!(decide (((s.getD (vi3).toNat 0).toNat:Int) < (48:Int))))=true->0<=vi3/\vi3 < (s.length:Int)) (need ((!(decide (((s.getD (vi3).toNat 0).toNat:Int) < (48:Int))))=true->(!(decide (((s.getD (vi3).toNat 0).toNat:Int) < (48:Int))))=true) (need ((decide (((s.getD (vi3).toNat 0).toNat:Int) < (48:Int)))=false->(!(decide (((s.getD (vi3).toNat 0).toNat:Int) < (48:Int))))=true) (Brnumber_3 F f1 s vi2 vi3 ((decide (((s.getD (vi3).toNat 0).toNat:Int) < (48:Int)))||(decide (((s.getD (vi3).toNat 0).toNat:Int) > (57:Int))))))))))) (cond (decide (vi2 > (4294967295:Int))) (some (.tup [.p (.int .i64 (0:Int)),.p (.bool false)],[])) (some (.tup [.p (.int .i64 vi2),.p (.bool true)],[]))):=by kernel_rfl
 rw [h,need_pos (show (decide (((s.getD (vi3).toNat 0).toNat:Int) < (48:Int)))=false->(!(decide (((s.getD (vi3).toNat 0).toNat:Int) < (48:Int))))=true from (fun q0=>(not_mk q0))),need_pos (show (!(decide (((s.getD (vi3).toNat 0).toNat:Int) < (48:Int))))=true->(!(decide (((s.getD (vi3).toNat 0).toNat:Int) < (48:Int))))=true from (fun q0=>q0)),need_pos (show (!(decide (((s.getD (vi3).toNat 0).toNat:Int) < (48:Int))))=true->(!(decide (((s.getD (vi3).toNat 0).toNat:Int) < (48:Int))))=true from (fun q0=>q0)),need_pos (show (!(decide (((s.getD (vi3).toNat 0).toNat:Int) < (48:Int))))=true->(!(decide (((s.getD (vi3).toNat 0).toNat:Int) < (48:Int))))=true from (fun q0=>q0))]
theorem Brnumber_3_eq (F f1:Nat) (s:List UInt8) (vi2 vi3:Int) (vc4:Bool):Brnumber_3 F f1 s vi2 vi3 vc4=cond (vc4) (some (.tup [.p (.int .i64 (0:Int)),.p (.bool false)],[])) (need (i64ok ((10:Int) * vi2)) (need (0<=vi3/\vi3 < (s.length:Int)) (need (i64ok (((10:Int) * vi2)+(IntKind.u8.wrap (((s.getD (vi3).toNat 0).toNat:Int) - (48:Int))))) (need (i64ok (vi3+(1:Int))) (Brnumber_2 F f1 s (((10:Int) * vi2)+(IntKind.u8.wrap (((s.getD (vi3).toNat 0).toNat:Int) - (48:Int)))) (vi3+(1:Int))))))):=by kernel_rfl
theorem Frnumber_eq (F:Nat) (s:List UInt8):Frnumber F s=need (((!((s==([]:List UInt8))||(decide ((s.length:Int) > (10:Int)))))&&(decide ((s.length:Int) > (1:Int))))=true->0<=(0:Int)/\(0:Int) < (s.length:Int)) (Brnumber_1 F s (((s==([]:List UInt8))||(decide ((s.length:Int) > (10:Int))))||((decide ((s.length:Int) > (1:Int)))&&(((s.getD ((0:Int)).toNat 0).toNat:Int)==(48:Int))))):=
 Eq.trans (show Frnumber F s=need ((!(s==([]:List UInt8)))=true->(!(s==([]:List UInt8)))=true) (need ((!(s==([]:List UInt8)))=true->(!(s==([]:List UInt8)))=true) (need ((s==([]:List UInt8))=false->(!(s==([]:List UInt8)))=true) (need ((!((s==([]:List UInt8))||(decide ((s.length:Int) > (10:Int)))))=true->(!((s==([]:List UInt8))||(decide ((s.length:Int) > (10:Int)))))=true) (need ((!((s==([]:List UInt8))||(decide ((s.length:Int) > (10:Int)))))=true->(!((s==([]:List UInt8))||(decide ((s.length:Int) > (10:Int)))))=true) (need ((!((s==([]:List UInt8))||(decide ((s.length:Int) > (10:Int)))))=true->(!((s==([]:List UInt8))||(decide ((s.length:Int) > (10:Int)))))=true) (need (((!((s==([]:List UInt8))||(decide ((s.length:Int) > (10:Int)))))&&(decide ((s.length:Int) > (1:Int))))=true->((!((s==([]:List UInt8))||(decide ((s.length:Int) > (10:Int)))))&&(decide ((s.length:Int) > (1:Int))))=true) (need (((!((s==([]:List UInt8))||(decide ((s.length:Int) > (10:Int)))))&&(decide ((s.length:Int) > (1:Int))))=true->0<=(0:Int)/\(0:Int) < (s.length:Int)) (need (((!((s==([]:List UInt8))||(decide ((s.length:Int) > (10:Int)))))&&(decide ((s.length:Int) > (1:Int))))=true->((!((s==([]:List UInt8))||(decide ((s.length:Int) > (10:Int)))))&&(decide ((s.length:Int) > (1:Int))))=true) (need ((!((s==([]:List UInt8))||(decide ((s.length:Int) > (10:Int)))))=true->(!((s==([]:List UInt8))||(decide ((s.length:Int) > (10:Int)))))=true) (need ((!((s==([]:List UInt8))||(decide ((s.length:Int) > (10:Int)))))=true->(decide ((s.length:Int) > (1:Int)))=true->((!((s==([]:List UInt8))||(decide ((s.length:Int) > (10:Int)))))&&(decide ((s.length:Int) > (1:Int))))=true) (need (((s==([]:List UInt8))||(decide ((s.length:Int) > (10:Int))))=false->(!((s==([]:List UInt8))||(decide ((s.length:Int) > (10:Int)))))=true) (Brnumber_1 F s (((s==([]:List UInt8))||(decide ((s.length:Int) > (10:Int))))||((decide ((s.length:Int) > (1:Int)))&&(((s.getD ((0:Int)).toNat 0).toNat:Int)==(48:Int)))))))))))))))) by kernel_rfl) (need_strike (show (!(s==([]:List UInt8)))=true->(!(s==([]:List UInt8)))=true from (fun q0=>q0)) (need_strike (show (!(s==([]:List UInt8)))=true->(!(s==([]:List UInt8)))=true from (fun q0=>q0)) (need_strike (show (s==([]:List UInt8))=false->(!(s==([]:List UInt8)))=true from (fun q0=>(not_mk q0))) (need_strike (show (!((s==([]:List UInt8))||(decide ((s.length:Int) > (10:Int)))))=true->(!((s==([]:List UInt8))||(decide ((s.length:Int) > (10:Int)))))=true from (fun q0=>q0)) (need_strike (show (!((s==([]:List UInt8))||(decide ((s.length:Int) > (10:Int)))))=true->(!((s==([]:List UInt8))||(decide ((s.length:Int) > (10:Int)))))=true from (fun q0=>q0)) (need_strike (show (!((s==([]:List UInt8))||(decide ((s.length:Int) > (10:Int)))))=true->(!((s==([]:List UInt8))||(decide ((s.length:Int) > (10:Int)))))=true from (fun q0=>q0)) (need_strike (show ((!((s==([]:List UInt8))||(decide ((s.length:Int) > (10:Int)))))&&(decide ((s.length:Int) > (1:Int))))=true->((!((s==([]:List UInt8))||(decide ((s.length:Int) > (10:Int)))))&&(decide ((s.length:Int) > (1:Int))))=true from (fun q0=>q0)) (need_congr (need_strike (show ((!((s==([]:List UInt8))||(decide ((s.length:Int) > (10:Int)))))&&(decide ((s.length:Int) > (1:Int))))=true->((!((s==([]:List UInt8))||(decide ((s.length:Int) > (10:Int)))))&&(decide ((s.length:Int) > (1:Int))))=true from (fun q0=>q0)) (need_strike (show (!((s==([]:List UInt8))||(decide ((s.length:Int) > (10:Int)))))=true->(!((s==([]:List UInt8))||(decide ((s.length:Int) > (10:Int)))))=true from (fun q0=>q0)) (need_strike (show (!((s==([]:List UInt8))||(decide ((s.length:Int) > (10:Int)))))=true->(decide ((s.length:Int) > (1:Int)))=true->((!((s==([]:List UInt8))||(decide ((s.length:Int) > (10:Int)))))&&(decide ((s.length:Int) > (1:Int))))=true from (fun q0 q1=>(and_mk q0 q1))) (need_strike (show ((s==([]:List UInt8))||(decide ((s.length:Int) > (10:Int))))=false->(!((s==([]:List UInt8))||(decide ((s.length:Int) > (10:Int)))))=true from (fun q0=>(not_mk q0))) (rfl)))))))))))))
theorem fn_rnumber (F:Nat) (s:List UInt8) (r:AV) (h:(∃ M vs,ARels γ0 M [.p (.str s)] vs)->Frnumber F s=some (r,[])):FnP Tryz.prog 23 [.p (.str s)] r:=
 FnP_run Grnumber F rfl (EnvOk_mk (l:=[]) trivial) (EnvROk_mk (l:=[]) trivial) (Checked.mixed Tryz.checked) (fn:=Tryz.f23) (by kernel_rfl) (by kernel_rfl) rfl h
theorem Brnumber_spec (F:Nat) (s:List UInt8) (hs:s.length<=10):∀ (r:List UInt8) (f i n:Nat),s.drop i=r->r.length < f->i<=s.length->n < 10 ^ i->
 Brnumber_2 F f s (n:Int) (i:Int)=some (numT (numE (numL r n)),[]):=by
 intro r
 induction r with
 | nil=>
  intro f i n hd hf hi hn
  have:i=s.length:=by have:=congrArg List.length hd; simp at this; omega
  cases f with
  | zero=>omega
  | succ f=>
   rw [Brnumber_2_eq]
   exact cond_f (by simp; omega) numE_big
 | cons c r ih=>
  intro f i n hd hf hi hn
  obtain ⟨h1,h2,h3⟩:=drop_cons hd
  have hp:10 ^ i<=10 ^ 10:=Nat.pow_le_pow_right (by decide) (by omega)
  have hp':(10:Nat) ^ 10=10000000000:=by decide
  cases f with
  | zero=>omega
  | succ f=>
   rw [Brnumber_2_eq]
   refine cond_t (by simp; omega) (need_mk ⟨by omega,by omega⟩ (need_mk (fun _=>⟨by omega,by omega⟩) ?_))
   rw [Int.toNat_natCast,h1,digit_bad,Brnumber_3_eq,numL]
   by_cases hc:c.toNat < 48\/57 < c.toNat
   .rw [if_pos hc]; exact cond_t (by simpa using hc) rfl
   .rw [if_neg hc]
    refine cond_f (by simpa using hc) ?_
    rw [Int.toNat_natCast,h1,digit_val hc]
    have hc9:c.toNat - 48<=9:=by omega
    refine need_mk (by unfold i64ok; omega) (need_mk ⟨by omega,by omega⟩ (need_mk (by unfold i64ok; omega) (need_mk (by unfold i64ok; omega) ?_)))
    rw [show (10:Int) * (n:Int)+((c.toNat - 48:Nat):Int)=((n * 10+(c.toNat - 48):Nat):Int) by omega,show (i:Int)+1=((i+1:Nat):Int) by omega]
    exact ih f (i+1) _ h2 (by simp at hf; omega) (by omega) (by rw [Nat.pow_succ]; omega)
theorem rnumber_eq (s:List UInt8):Frnumber 11 s=some (numT (numS s),[]):=by
 rw [Frnumber_eq,num_nil]
 refine need_mk (fun h=>?_) ?_
 .have:s≠[]:=by
   intro e; subst e; simp at h
  have:=List.length_pos_iff.2 this
  omega
 rw [Brnumber_1_eq,numS]
 by_cases hb:s=[]\/10 < s.length\/(s.getD 0 0=48/\1 < s.length)
 .rw [if_pos hb]
  refine cond_t ?_ rfl
  rw [show ((0:Int)).toNat=0 from rfl]
  rcases hb with h | h | ⟨h,h'⟩
  .simp [h]
  .simp; left; right; omega
  .rw [h]; simp; right; omega
 .rw [if_neg hb]
  have h1:s≠[]:=fun e=>hb (.inl e)
  have h2:s.length<=10:=by
   rcases Nat.lt_or_ge 10 s.length with h | h
   .exact absurd (.inr (.inl h)) hb
   .exact h
  refine cond_f ?_ (Brnumber_spec _ s h2 s 11 0 0 rfl (by omega) (by omega) (by decide))
  rw [show ((0:Int)).toNat=0 from rfl]
  rw [show decide (s=[])=false by simpa using h1,show decide ((s.length:Int) > 10)=false by simp; omega,Bool.false_or,Bool.false_or]
  rw [Bool.and_eq_false_iff]
  by_cases h3:s.getD 0 0=48
  .left
   simp only [decide_eq_false_iff_not]
   intro h4
   exact hb (.inr (.inr ⟨h3,by omega⟩))
  .right
   have:(s.getD 0 0).toNat≠48:=fun e=>h3 (UInt8.toNat_inj.1 e)
   simp only [beq_eq_false_iff_ne,ne_eq]; omega
def sp_rnumber:List AV->Option (AV×Option Prop)
 | [.p (.str s)]=>some (.tup [.p (.int .i64 ((numS s).1)),.p (.bool ((numS s).2))],none)
 | _=>none
theorem ok_rnumber:SpecOk Tryz.prog 23 sp_rnumber:=by
 intro zs r ok he hok
 unfold sp_rnumber at he
 split at he
 .cases he; exact ⟨by kernel_rfl,fn_rnumber 11 _ _ fun hx=>rnumber_eq _⟩
 .cases he
end Go.Proofs.YtoanepondbagcaaGreatDoor
