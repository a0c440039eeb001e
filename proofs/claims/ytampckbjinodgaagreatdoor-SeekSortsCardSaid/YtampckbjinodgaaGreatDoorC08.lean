/-
  Lifted functions, and facts about them.
-/
import Derived.Test.YtampckbjinodgaaGreatDoorRows
import Derived.Test.YtampckbjinodgaaGreatDoorAmC
import Derived.Test.YtampckbjinodgaaGreatDoorC01
import Derived.Test.YtampckbjinodgaaGreatDoorC04
import Derived.Test.YtampckbjinodgaaGreatDoorC05
import Derived.Test.YtampckbjinodgaaGreatDoorC06
import Derived.Test.YtampckbjinodgaaGreatDoorC07
namespace Go.Proofs.YtampckbjinodgaaGreatDoor
open Go Go.Am
set_option linter.unusedVariables false
theorem qdec_len:∀ (n:Nat) (s:List UInt8),s.length<=n->(qdec s).length<=s.length:=by
 intro n
 induction n with
 | zero=>intro s h; have:s=[]:=List.eq_nil_of_length_eq_zero (by omega); subst this; simp [qdec_nil]
 | succ n ih=>
  intro s h
  match s,h with
  | [],_=>simp [qdec_nil]
  | c::r,h=>
   by_cases hc:c=61
   .subst hc
    match r,h with
    | [],_=>rw [qdec_1]; simp
    | [x],h=>
     rw [qdec_2]; split
     .simp
     .have:=ih [x] (by simp at h ⊢; omega)
      simp at this ⊢; omega
    | x::y::t,h=>
     simp at h
     rw [qdec_3]
     split
     .have:=ih t (by omega); simp; omega
     .split
      .have:=ih (y::t) (by simp; omega); simp at this ⊢; omega
      .split
       .have:=ih t (by omega); simp; omega
       .have:=ih (x::y::t) (by simp; omega); simp at this ⊢; omega
   .rw [qdec_ne hc]
    have:=ih r (by simp at h; omega)
    simp; omega
abbrev sOpen:List UInt8:=[61,63]
abbrev sShut:List UInt8:=[63,61]
def parse (s:List UInt8) (i:Nat):Option (Nat×Nat):=
 if hasP (s.drop i) sOpen=false then none else
 if runN s (i+2)=i+2\/s.length < runN s (i+2)+3\/s.getD (runN s (i+2)) 0≠63\/s.getD (runN s (i+2)+2) 0≠63 then none else
 if hasP (s.drop (runN s (runN s (i+2)+3))) sShut=false then none else some (runN s (i+2),runN s (runN s (i+2)+3))
def bodyS (k:UInt8) (t:List UInt8):Option (List UInt8):=
 if k=66\/k=98 then some (looseB t) else if k=81\/k=113 then some (qdec (repS t 95 32)) else none
def oneS (s:List UInt8) (i:Int):List UInt8×Int×Bool:=
 match parse s i.toNat with
 | none=>([],i,false)
 | some (a,b)=>match bodyS (s.getD (a+1) 0) ((s.take b).drop (a+3)) with
  | none=>([],i,false)
  | some u=>((saysS ((s.take a).drop (i.toNat+2)) u).1,((b+2:Nat):Int),(saysS ((s.take a).drop (i.toNat+2)) u).2)
def oneT (p:List UInt8×Int×Bool):AV:=.tup [.p (.str p.1),.p (.int .i64 p.2.1),.p (.bool p.2.2)]
theorem u8n (c d:UInt8):((c.toNat:Int)==(d.toNat:Int))=(c==d):=by
 rw [Bool.eq_iff_iff]; simp only [beq_iff_eq]; exact u8_eq
theorem u8ne (c d:UInt8):((c.toNat:Int) != (d.toNat:Int))=(c != d):=by simp only [bne,u8n]
theorem hasP2 {s p:List UInt8} (h:hasP s p=true):p.length<=s.length:=by
 unfold hasP at h
 rw [beq_iff_eq] at h
 have:=congrArg List.length h
 simp at this; omega
theorem rep_len (s:List UInt8) (c d:UInt8):(repS s c d).length=s.length:=by simp [repS]
theorem mid_len (s:List UInt8) (a b:Nat):((s.take b).drop a).length<=s.length:=by simp; omega
noncomputable def cone:Code:=bodyOf Tryz.f79
noncomputable def Gone:Cfg:=⟨Tryz.prog,mkEnv [(112,sp_hp),(113,sp_wrun),(114,sp_Loose),(115,sp_QDecode),(116,sp_repa),(117,sp_says)],mkEnvR [],92,[],[([1,0,1,1,1,1],⟨[0,1,7,8,46],[]⟩),([1,0,1,0,1,1,1,1,1,1,1,1],⟨[0,1,7,8,9,10,66,68],[]⟩),([1,1,1,0,1,0,1,1,1,1,1,1,1,1],⟨[0,1,7,8,9,10,73],[]⟩),([1,1,1,1,1,1,1,1,1],⟨[0,7,8,9,10],[]⟩)],[]⟩
noncomputable def Bone_1 (F:Nat) (s:List UInt8) (i vi1 vi2:Int) (vc3:Bool):Option Ans:=runB Gone cone (kP Tryz.prog Tryz.f79.results.toList) F [] [1,1,1,1,0,1] [(0,.p (.str s)),(1,.p (.int .i64 i)),(7,.p (.int .i64 vi1)),(8,.p (.int .i64 vi2)),(46,.p (.bool vc3))] []
noncomputable def Bone_2 (F:Nat) (s:List UInt8) (i vi1 vi2 vi4:Int) (vs5:List UInt8) (vi6:Int) (vc7:Bool):Option Ans:=runB Gone cone (kP Tryz.prog Tryz.f79.results.toList) F [] [1,1,1,1,1,1,1,1,0,1,0,1] [(0,.p (.str s)),(1,.p (.int .i64 i)),(7,.p (.int .i64 vi1)),(8,.p (.int .i64 vi2)),(9,.p (.int .i64 vi4)),(10,.p (.str vs5)),(66,.p (.int .u8 vi6)),(68,.p (.bool vc7))] []
noncomputable def Bone_3 (F:Nat) (s:List UInt8) (vi1 vi2 vi4:Int) (vs8:List UInt8):Option Ans:=runB Gone cone (kP Tryz.prog Tryz.f79.results.toList) F [] [1,1,1,1,1,1,1,1,1] [(0,.p (.str s)),(7,.p (.int .i64 vi1)),(8,.p (.int .i64 vi2)),(9,.p (.int .i64 vi4)),(10,.p (.str vs8))] []
noncomputable def Bone_4 (F:Nat) (s:List UInt8) (i vi1 vi2 vi4:Int) (vs5:List UInt8) (vc9:Bool):Option Ans:=runB Gone cone (kP Tryz.prog Tryz.f79.results.toList) F [] [1,1,1,1,1,1,1,1,0,1,0,1,1,1] [(0,.p (.str s)),(1,.p (.int .i64 i)),(7,.p (.int .i64 vi1)),(8,.p (.int .i64 vi2)),(9,.p (.int .i64 vi4)),(10,.p (.str vs5)),(73,.p (.bool vc9))] []
noncomputable def Fone (F:Nat) (s:List UInt8) (i:Int):Option Ans:=runF Gone Tryz.f79 F [.p (.str s),.p (.int .i64 i)]
theorem Bone_1_eq (F:Nat) (s:List UInt8) (i vi1 vi2:Int) (vc3:Bool):Bone_1 F s i vi1 vi2 vc3=cond (vc3) (some (.tup [.p (.str ([]:List UInt8)),.p (.int .i64 i),.p (.bool false)],[])) (need (i64ok (vi2+(3:Int))) (need (wposok s (vi2+(3:Int))) (need (0<=(runS s (vi2+(3:Int)))/\(runS s (vi2+(3:Int)))<=(s.length:Int)) (cond (!(hasP (s.drop (runS s (vi2+(3:Int))).toNat) ([63,61]:List UInt8))) (some (.tup [.p (.str ([]:List UInt8)),.p (.int .i64 i),.p (.bool false)],[])) (need (i64ok (vi2+(3:Int))) (need (0<=(vi2+(3:Int))/\(vi2+(3:Int))<=(runS s (vi2+(3:Int)))/\(runS s (vi2+(3:Int)))<=(s.length:Int)) (need (i64ok (vi2+(1:Int))) (need (0<=(vi2+(1:Int))/\(vi2+(1:Int)) < (s.length:Int)) (cond (((s.getD (vi2+(1:Int)).toNat 0).toNat:Int)==(66:Int)) (Bone_2 F s i vi1 vi2 (runS s (vi2+(3:Int))) ((s.take (runS s (vi2+(3:Int))).toNat).drop (vi2+(3:Int)).toNat) ((s.getD (vi2+(1:Int)).toNat 0).toNat:Int) (((s.getD (vi2+(1:Int)).toNat 0).toNat:Int)==(66:Int))) (Bone_2 F s i vi1 vi2 (runS s (vi2+(3:Int))) ((s.take (runS s (vi2+(3:Int))).toNat).drop (vi2+(3:Int)).toNat) ((s.getD (vi2+(1:Int)).toNat 0).toNat:Int) (((s.getD (vi2+(1:Int)).toNat 0).toNat:Int)==(98:Int)))))))))))):=by kernel_rfl
theorem Bone_2_eq (F:Nat) (s:List UInt8) (i vi1 vi2 vi4:Int) (vs5:List UInt8) (vi6:Int) (vc7:Bool):Bone_2 F s i vi1 vi2 vi4 vs5 vi6 vc7=cond (vc7) (need (vs5.length<=1000000) (Bone_3 F s vi1 vi2 vi4 (looseB vs5))) (cond (vi6==(81:Int)) (Bone_4 F s i vi1 vi2 vi4 vs5 (vi6==(81:Int))) (Bone_4 F s i vi1 vi2 vi4 vs5 (vi6==(113:Int)))):=by kernel_rfl
theorem Bone_3_eq (F:Nat) (s:List UInt8) (vi1 vi2 vi4:Int) (vs8:List UInt8):Bone_3 F s vi1 vi2 vi4 vs8=need (0<=vi1/\vi1<=vi2/\vi2<=(s.length:Int)) (need (((s.take (vi2).toNat).drop (vi1).toNat).length<=1000000/\vs8.length<=1000000) (need (i64ok (vi4+(2:Int))) (some (.tup [.p (.str ((saysS ((s.take (vi2).toNat).drop (vi1).toNat) vs8).1)),.p (.int .i64 (vi4+(2:Int))),.p (.bool ((saysS ((s.take (vi2).toNat).drop (vi1).toNat) vs8).2))],[])))):=by kernel_rfl
theorem Bone_4_eq (F:Nat) (s:List UInt8) (i vi1 vi2 vi4:Int) (vs5:List UInt8) (vc9:Bool):Bone_4 F s i vi1 vi2 vi4 vs5 vc9=cond (vc9) (need (vs5.length<=1000000) (need ((repS vs5 95 32).length<=1000000) (Bone_3 F s vi1 vi2 vi4 (qdec (repS vs5 95 32))))) (some (.tup [.p (.str ([]:List UInt8)),.p (.int .i64 i),.p (.bool false)],[])):=by kernel_rfl
theorem Fone_eq (F:Nat) (s:List UInt8) (i:Int):Fone F s i=need (0<=i/\i<=(s.length:Int)) (cond (!(hasP (s.drop (i).toNat) ([61,63]:List UInt8))) (some (.tup [.p (.str ([]:List UInt8)),.p (.int .i64 i),.p (.bool false)],[])) (need (i64ok (i+(2:Int))) (need (wposok s (i+(2:Int))) (need ((!((runS s (i+(2:Int)))==(i+(2:Int))))=true->i64ok ((s.length:Int) - (runS s (i+(2:Int))))) (need ((!(((runS s (i+(2:Int)))==(i+(2:Int)))||(decide (((s.length:Int) - (runS s (i+(2:Int)))) < (3:Int)))))=true->0<=(runS s (i+(2:Int)))/\(runS s (i+(2:Int))) < (s.length:Int)) (need ((!((((runS s (i+(2:Int)))==(i+(2:Int)))||(decide (((s.length:Int) - (runS s (i+(2:Int)))) < (3:Int))))||(((s.getD (runS s (i+(2:Int))).toNat 0).toNat:Int) != (63:Int))))=true->i64ok ((runS s (i+(2:Int)))+(2:Int))) (need ((!((((runS s (i+(2:Int)))==(i+(2:Int)))||(decide (((s.length:Int) - (runS s (i+(2:Int)))) < (3:Int))))||(((s.getD (runS s (i+(2:Int))).toNat 0).toNat:Int) != (63:Int))))=true->0<=((runS s (i+(2:Int)))+(2:Int))/\((runS s (i+(2:Int)))+(2:Int)) < (s.length:Int)) (Bone_1 F s i (i+(2:Int)) (runS s (i+(2:Int))) (((((runS s (i+(2:Int)))==(i+(2:Int)))||(decide (((s.length:Int) - (runS s (i+(2:Int)))) < (3:Int))))||(((s.getD (runS s (i+(2:Int))).toNat 0).toNat:Int) != (63:Int)))||(((s.getD ((runS s (i+(2:Int)))+(2:Int)).toNat 0).toNat:Int) != (63:Int))))))))))):=
 Eq.trans (show Fone F s i=need (0<=i/\i<=(s.length:Int)) (cond (!(hasP (s.drop (i).toNat) ([61,63]:List UInt8))) (some (.tup [.p (.str ([]:List UInt8)),.p (.int .i64 i),.p (.bool false)],[])) (need (i64ok (i+(2:Int))) (need (wposok s (i+(2:Int))) (need ((!((runS s (i+(2:Int)))==(i+(2:Int))))=true->(!((runS s (i+(2:Int)))==(i+(2:Int))))=true) (need ((!((runS s (i+(2:Int)))==(i+(2:Int))))=true->(!((runS s (i+(2:Int)))==(i+(2:Int))))=true) (need ((!((runS s (i+(2:Int)))==(i+(2:Int))))=true->(!((runS s (i+(2:Int)))==(i+(2:Int))))=true) (need ((!((runS s (i+(2:Int)))==(i+(2:Int))))=true->i64ok ((s.length:Int) - (runS s (i+(2:Int))))) (need ((!((runS s (i+(2:Int)))==(i+(2:Int))))=true->(!((runS s (i+(2:Int)))==(i+(2:Int))))=true) (need (((runS s (i+(2:Int)))==(i+(2:Int)))=false->(!((runS s (i+(2:Int)))==(i+(2:Int))))=true) (need ((!(((runS s (i+(2:Int)))==(i+(2:Int)))||(decide (((s.length:Int) - (runS s (i+(2:Int)))) < (3:Int)))))=true->(!(((runS s (i+(2:Int)))==(i+(2:Int)))||(decide (((s.length:Int) - (runS s (i+(2:Int)))) < (3:Int)))))=true) (need ((!(((runS s (i+(2:Int)))==(i+(2:Int)))||(decide (((s.length:Int) - (runS s (i+(2:Int)))) < (3:Int)))))=true->(!(((runS s (i+(2:Int)))==(i+(2:Int)))||(decide (((s.length:Int) - (runS s (i+(2:Int)))) < (3:Int)))))=true) (need ((!(((runS s (i+(2:Int)))==(i+(2:Int)))||(decide (((s.length:Int) - (runS s (i+(2:Int)))) < (3:Int)))))=true->0<=(runS s (i+(2:Int)))/\(runS s (i+(2:Int))) < (s.length:Int)) (need ((!(((runS s (i+(2:Int)))==(i+(2:Int)))||(decide (((s.length:Int) - (runS s (i+(2:Int)))) < (3:Int)))))=true->(!(((runS s (i+(2:Int)))==(i+(2:Int)))||(decide (((s.length:Int) - (runS s (i+(2:Int)))) < (3:Int)))))=true) (need ((((runS s (i+(2:Int)))==(i+(2:Int)))||(decide (((s.length:Int) - (runS s (i+(2:Int)))) < (3:Int))))=false->(!(((runS s (i+(2:Int)))==(i+(2:Int)))||(decide (((s.length:Int) - (runS s (i+(2:Int)))) < (3:Int)))))=true) (need ((!((((runS s (i+(2:Int)))==(i+(2:Int)))||(decide (((s.length:Int) - (runS s (i+(2:Int)))) < (3:Int))))||(((s.getD (runS s (i+(2:Int))).toNat 0).toNat:Int) != (63:Int))))=true->(!((((runS s (i+(2:Int)))==(i+(2:Int)))||(decide (((s.length:Int) - (runS s (i+(2:Int)))) < (3:Int))))||(((s.getD (runS s (i+(2:Int))).toNat 0).toNat:Int) != (63:Int))))=true) (need ((!((((runS s (i+(2:Int)))==(i+(2:Int)))||(decide (((s.length:Int) - (runS s (i+(2:Int)))) < (3:Int))))||(((s.getD (runS s (i+(2:Int))).toNat 0).toNat:Int) != (63:Int))))=true->i64ok ((runS s (i+(2:Int)))+(2:Int))) (need ((!((((runS s (i+(2:Int)))==(i+(2:Int)))||(decide (((s.length:Int) - (runS s (i+(2:Int)))) < (3:Int))))||(((s.getD (runS s (i+(2:Int))).toNat 0).toNat:Int) != (63:Int))))=true->(!((((runS s (i+(2:Int)))==(i+(2:Int)))||(decide (((s.length:Int) - (runS s (i+(2:Int)))) < (3:Int))))||(((s.getD (runS s (i+(2:Int))).toNat 0).toNat:Int) != (63:Int))))=true) (need ((!((((runS s (i+(2:Int)))==(i+(2:Int)))||(decide (((s.length:Int) - (runS s (i+(2:Int)))) < (3:Int))))||(((s.getD (runS s (i+(2:Int))).toNat 0).toNat:Int) != (63:Int))))=true->(!((((runS s (i+(2:Int)))==(i+(2:Int)))||(decide (((s.length:Int) - (runS s (i+(2:Int)))) < (3:Int))))||(((s.getD (runS s (i+(2:Int))).toNat 0).toNat:Int) != (63:Int))))=true) (need ((!((((runS s (i+(2:Int)))==(i+(2:Int)))||(decide (((s.length:Int) - (runS s (i+(2:Int)))) < (3:Int))))||(((s.getD (runS s (i+(2:Int))).toNat 0).toNat:Int) != (63:Int))))=true->0<=((runS s (i+(2:Int)))+(2:Int))/\((runS s (i+(2:Int)))+(2:Int)) < (s.length:Int)) (need ((!((((runS s (i+(2:Int)))==(i+(2:Int)))||(decide (((s.length:Int) - (runS s (i+(2:Int)))) < (3:Int))))||(((s.getD (runS s (i+(2:Int))).toNat 0).toNat:Int) != (63:Int))))=true->(!((((runS s (i+(2:Int)))==(i+(2:Int)))||(decide (((s.length:Int) - (runS s (i+(2:Int)))) < (3:Int))))||(((s.getD (runS s (i+(2:Int))).toNat 0).toNat:Int) != (63:Int))))=true) (need (((((runS s (i+(2:Int)))==(i+(2:Int)))||(decide (((s.length:Int) - (runS s (i+(2:Int)))) < (3:Int))))||(((s.getD (runS s (i+(2:Int))).toNat 0).toNat:Int) != (63:Int)))=false->(!((((runS s (i+(2:Int)))==(i+(2:Int)))||(decide (((s.length:Int) - (runS s (i+(2:Int)))) < (3:Int))))||(((s.getD (runS s (i+(2:Int))).toNat 0).toNat:Int) != (63:Int))))=true) (Bone_1 F s i (i+(2:Int)) (runS s (i+(2:Int))) (((((runS s (i+(2:Int)))==(i+(2:Int)))||(decide (((s.length:Int) - (runS s (i+(2:Int)))) < (3:Int))))||(((s.getD (runS s (i+(2:Int))).toNat 0).toNat:Int) != (63:Int)))||(((s.getD ((runS s (i+(2:Int)))+(2:Int)).toNat 0).toNat:Int) != (63:Int))))))))))))))))))))))))) by kernel_rfl) (need_congr (cond_congr (rfl) (need_congr (need_congr (need_strike (show (!((runS s (i+(2:Int)))==(i+(2:Int))))=true->(!((runS s (i+(2:Int)))==(i+(2:Int))))=true from (fun q0=>q0)) (need_strike (show (!((runS s (i+(2:Int)))==(i+(2:Int))))=true->(!((runS s (i+(2:Int)))==(i+(2:Int))))=true from (fun q0=>q0)) (need_strike (show (!((runS s (i+(2:Int)))==(i+(2:Int))))=true->(!((runS s (i+(2:Int)))==(i+(2:Int))))=true from (fun q0=>q0)) (need_congr (need_strike (show (!((runS s (i+(2:Int)))==(i+(2:Int))))=true->(!((runS s (i+(2:Int)))==(i+(2:Int))))=true from (fun q0=>q0)) (need_strike (show ((runS s (i+(2:Int)))==(i+(2:Int)))=false->(!((runS s (i+(2:Int)))==(i+(2:Int))))=true from (fun q0=>(not_mk q0))) (need_strike (show (!(((runS s (i+(2:Int)))==(i+(2:Int)))||(decide (((s.length:Int) - (runS s (i+(2:Int)))) < (3:Int)))))=true->(!(((runS s (i+(2:Int)))==(i+(2:Int)))||(decide (((s.length:Int) - (runS s (i+(2:Int)))) < (3:Int)))))=true from (fun q0=>q0)) (need_strike (show (!(((runS s (i+(2:Int)))==(i+(2:Int)))||(decide (((s.length:Int) - (runS s (i+(2:Int)))) < (3:Int)))))=true->(!(((runS s (i+(2:Int)))==(i+(2:Int)))||(decide (((s.length:Int) - (runS s (i+(2:Int)))) < (3:Int)))))=true from (fun q0=>q0)) (need_congr (need_strike (show (!(((runS s (i+(2:Int)))==(i+(2:Int)))||(decide (((s.length:Int) - (runS s (i+(2:Int)))) < (3:Int)))))=true->(!(((runS s (i+(2:Int)))==(i+(2:Int)))||(decide (((s.length:Int) - (runS s (i+(2:Int)))) < (3:Int)))))=true from (fun q0=>q0)) (need_strike (show (((runS s (i+(2:Int)))==(i+(2:Int)))||(decide (((s.length:Int) - (runS s (i+(2:Int)))) < (3:Int))))=false->(!(((runS s (i+(2:Int)))==(i+(2:Int)))||(decide (((s.length:Int) - (runS s (i+(2:Int)))) < (3:Int)))))=true from (fun q0=>(not_mk q0))) (need_strike (show (!((((runS s (i+(2:Int)))==(i+(2:Int)))||(decide (((s.length:Int) - (runS s (i+(2:Int)))) < (3:Int))))||(((s.getD (runS s (i+(2:Int))).toNat 0).toNat:Int) != (63:Int))))=true->(!((((runS s (i+(2:Int)))==(i+(2:Int)))||(decide (((s.length:Int) - (runS s (i+(2:Int)))) < (3:Int))))||(((s.getD (runS s (i+(2:Int))).toNat 0).toNat:Int) != (63:Int))))=true from (fun q0=>q0)) (need_congr (need_strike (show (!((((runS s (i+(2:Int)))==(i+(2:Int)))||(decide (((s.length:Int) - (runS s (i+(2:Int)))) < (3:Int))))||(((s.getD (runS s (i+(2:Int))).toNat 0).toNat:Int) != (63:Int))))=true->(!((((runS s (i+(2:Int)))==(i+(2:Int)))||(decide (((s.length:Int) - (runS s (i+(2:Int)))) < (3:Int))))||(((s.getD (runS s (i+(2:Int))).toNat 0).toNat:Int) != (63:Int))))=true from (fun q0=>q0)) (need_strike (show (!((((runS s (i+(2:Int)))==(i+(2:Int)))||(decide (((s.length:Int) - (runS s (i+(2:Int)))) < (3:Int))))||(((s.getD (runS s (i+(2:Int))).toNat 0).toNat:Int) != (63:Int))))=true->(!((((runS s (i+(2:Int)))==(i+(2:Int)))||(decide (((s.length:Int) - (runS s (i+(2:Int)))) < (3:Int))))||(((s.getD (runS s (i+(2:Int))).toNat 0).toNat:Int) != (63:Int))))=true from (fun q0=>q0)) (need_congr (need_strike (show (!((((runS s (i+(2:Int)))==(i+(2:Int)))||(decide (((s.length:Int) - (runS s (i+(2:Int)))) < (3:Int))))||(((s.getD (runS s (i+(2:Int))).toNat 0).toNat:Int) != (63:Int))))=true->(!((((runS s (i+(2:Int)))==(i+(2:Int)))||(decide (((s.length:Int) - (runS s (i+(2:Int)))) < (3:Int))))||(((s.getD (runS s (i+(2:Int))).toNat 0).toNat:Int) != (63:Int))))=true from (fun q0=>q0)) (need_strike (show ((((runS s (i+(2:Int)))==(i+(2:Int)))||(decide (((s.length:Int) - (runS s (i+(2:Int)))) < (3:Int))))||(((s.getD (runS s (i+(2:Int))).toNat 0).toNat:Int) != (63:Int)))=false->(!((((runS s (i+(2:Int)))==(i+(2:Int)))||(decide (((s.length:Int) - (runS s (i+(2:Int)))) < (3:Int))))||(((s.getD (runS s (i+(2:Int))).toNat 0).toNat:Int) != (63:Int))))=true from (fun q0=>(not_mk q0))) (rfl)))))))))))))))))))))))
theorem fn_one (F:Nat) (s:List UInt8) (i:Int) (r:AV) (h:(∃ M vs,ARels γ0 M [.p (.str s),.p (.int .i64 i)] vs)->Fone F s i=some (r,[])):FnP Tryz.prog 79 [.p (.str s),.p (.int .i64 i)] r:=
 FnP_run Gone F rfl (EnvOk_mk (l:=[(112,sp_hp),(113,sp_wrun),(114,sp_Loose),(115,sp_QDecode),(116,sp_repa),(117,sp_says)]) ⟨ok_hp.any,ok_wrun.any,ok_Loose.any,ok_QDecode.any,ok_repa.any,ok_says.any,trivial⟩) (EnvROk_mk (l:=[]) trivial) (Checked.mixed Tryz.checked) (fn:=Tryz.f79) (by kernel_rfl) (by kernel_rfl) rfl h
theorem one_eq (s:List UInt8) (i:Int) (h:wposok s i):Fone 0 s i=some (oneT (oneS s i),[]):=by
 obtain ⟨h0,h1,h2⟩:=h
 obtain ⟨i,rfl⟩:=Int.eq_ofNat_of_zero_le h0
 have hi:i<=s.length:=by omega
 rw [Fone_eq]
 refine need_mk (by first | omega | (unfold i64ok; omega) | (simp only [List.length_cons,List.length_nil]; omega) | (simp; omega) | simp) ?_
 rw [oneS,parse]
 rw [show ((i:Int)).toNat=i from rfl]
 by_cases c1:hasP (s.drop i) sOpen=false
 .refine cond_t (by rw [c1]; rfl) ?_
  rw [if_pos c1]; rfl
 .have c1':hasP (s.drop i) sOpen=true:=by simpa using c1
  refine cond_f (by rw [c1']; rfl) ?_
  rw [if_neg c1]
  have hlen:i+2<=s.length:=by have:=hasP2 c1'; simp at this; omega
  refine need_mk (by first | omega | (unfold i64ok; omega) | (simp only [List.length_cons,List.length_nil]; omega) | (simp; omega) | simp) ?_
  have e2:(i:Int)+2=((i+2:Nat):Int):=by omega
  rw [e2]
  refine need_mk ⟨by omega,by omega,h2⟩ ?_
  have hr:=runN_le (s:=s) (i:=i+2) hlen
  rw [show runS s ((i+2:Nat):Int)=(runN s (i+2):Int) from rfl]
  generalize runN s (i+2)=a at hr ⊢
  rw [show ((a:Int)).toNat=a from rfl]
  refine need_mk (fun _=>by unfold i64ok; omega) ?_
  have ea2:((a:Int)+2).toNat=a+2:=by omega
  rw [ea2]
  refine need_mk (fun h=>by simp at h; omega) (need_mk (fun h=>by unfold i64ok; omega) (need_mk (fun h=>by simp at h; omega) ?_))
  have hB:((((a:Int)==((i+2:Nat):Int))||(decide ((s.length:Int) - (a:Int) < (3:Int))))||(((s.getD a 0).toNat:Int) != (63:Int))||(((s.getD (a+2) 0).toNat:Int) != (63:Int)))=
   decide (a=i+2\/s.length < a+3\/s.getD a 0≠63\/s.getD (a+2) 0≠63):=by
   rw [show (63:Int)=((63:UInt8).toNat:Int) from rfl,u8ne,u8ne,Bool.eq_iff_iff]
   simp only [Bool.or_eq_true,decide_eq_true_eq,beq_iff_eq,bne_iff_ne]
   constructor
   .rintro (((h | h) | h) | h)
    .exact .inl (by omega)
    .exact .inr (.inl (by omega))
    .exact .inr (.inr (.inl h))
    .exact .inr (.inr (.inr h))
   .rintro (h | h | h | h)
    .exact .inl (.inl (.inl (by omega)))
    .exact .inl (.inl (.inr (by omega)))
    .exact .inl (.inr h)
    .exact .inr h
  rw [hB,Bone_1_eq]
  by_cases c2:a=i+2\/s.length < a+3\/s.getD a 0≠63\/s.getD (a+2) 0≠63
  .refine cond_t (decide_eq_true c2) ?_
   rw [if_pos c2]; rfl
  .refine cond_f (decide_eq_false c2) ?_
   rw [if_neg c2]
   have ha3:a+3<=s.length:=by
    rcases Nat.lt_or_ge s.length (a+3) with h | h
    .exact absurd (.inr (.inl h)) c2
    .exact h
   have e3:(a:Int)+3=((a+3:Nat):Int):=by omega
   have e1:((a:Int)+1).toNat=a+1:=by omega
   refine need_mk (by first | omega | (unfold i64ok; omega) | (simp only [List.length_cons,List.length_nil]; omega) | (simp; omega) | simp) ?_
   rw [e3,e1]
   refine need_mk ⟨by omega,by omega,h2⟩ ?_
   have hb:=runN_le (s:=s) (i:=a+3) ha3
   rw [show runS s ((a+3:Nat):Int)=(runN s (a+3):Int) from rfl]
   generalize runN s (a+3)=b at hb ⊢
   rw [show ((b:Int)).toNat=b from rfl,show (((a+3:Nat):Int)).toNat=a+3 from rfl]
   refine need_mk (by first | omega | (unfold i64ok; omega) | (simp only [List.length_cons,List.length_nil]; omega) | (simp; omega) | simp) ?_
   by_cases c3:hasP (s.drop b) sShut=false
   .refine cond_t (by rw [c3]; rfl) ?_
    rw [if_pos c3]; rfl
   .have c3':hasP (s.drop b) sShut=true:=by simpa using c3
    refine cond_f (by rw [c3']; rfl) ?_
    rw [if_neg c3]
    have hb2:b+2<=s.length:=by have:=hasP2 c3'; simp at this; omega
    refine need_mk (by first | omega | (unfold i64ok; omega) | (simp only [List.length_cons,List.length_nil]; omega) | (simp; omega) | simp) ?_
    refine need_mk (by first | omega | (unfold i64ok; omega) | (simp only [List.length_cons,List.length_nil]; omega) | (simp; omega) | simp) ?_
    refine need_mk (by first | omega | (unfold i64ok; omega) | (simp only [List.length_cons,List.length_nil]; omega) | (simp; omega) | simp) ?_
    refine need_mk (by first | omega | (unfold i64ok; omega) | (simp only [List.length_cons,List.length_nil]; omega) | (simp; omega) | simp) ?_
    dsimp only
    have htl:=mid_len s (a+3) b
    generalize s.getD (a+1) 0=k
    generalize (s.take b).drop (a+3)=t at htl ⊢
    have fin:∀ u:List UInt8,u.length<=1000000->Bone_3 0 s ((i+2:Nat):Int) (a:Int) (b:Int) u=
     some (oneT ((saysS ((s.take a).drop (i+2)) u).1,((b+2:Nat):Int),(saysS ((s.take a).drop (i+2)) u).2),[]):=fun u hu=>by
     have hm:=mid_len s (i+2) a
     rw [Bone_3_eq,show (((i+2:Nat):Int)).toNat=i+2 from rfl,show ((a:Int)).toNat=a from rfl]
     refine need_mk (by omega) (need_mk ⟨by omega,hu⟩ (need_mk (by unfold i64ok; omega) ?_))
     rfl
    have hl:=looseG_len t 0 0
    have hq:=qdec_len _ (repS t 95 32) (Nat.le_refl _)
    rw [rep_len] at hq
    have two:∀ B,B=decide (k=66\/k=98)->Bone_2 0 s (i:Int) ((i+2:Nat):Int) (a:Int) (b:Int) t (k.toNat:Int) B=some (oneT (match bodyS k t with
     | none=>([],(i:Int),false)
     | some u=>((saysS ((s.take a).drop (i+2)) u).1,((b+2:Nat):Int),(saysS ((s.take a).drop (i+2)) u).2)),[]):=by
     intro B hB
     rw [hB,Bone_2_eq,bodyS]
     by_cases k1:k=66\/k=98
     .refine cond_t (decide_eq_true k1) (need_mk (by omega) ?_)
      rw [if_pos k1]
      exact fin _ (by unfold looseB; omega)
     .refine cond_f (decide_eq_false k1) ?_
      rw [if_neg k1]
      have four:∀ B,B=decide (k=81\/k=113)->Bone_4 0 s (i:Int) ((i+2:Nat):Int) (a:Int) (b:Int) t B=some (oneT (match (if k=81\/k=113 then some (qdec (repS t 95 32)) else none) with
       | none=>([],(i:Int),false)
       | some u=>((saysS ((s.take a).drop (i+2)) u).1,((b+2:Nat):Int),(saysS ((s.take a).drop (i+2)) u).2)),[]):=by
       intro B hB
       rw [hB,Bone_4_eq]
       by_cases k2:k=81\/k=113
       .refine cond_t (decide_eq_true k2) (need_mk (by omega) (need_mk (by rw [rep_len]; omega) ?_))
        rw [if_pos k2]
        exact fin _ (by omega)
       .refine cond_f (decide_eq_false k2) ?_
        rw [if_neg k2]; rfl
      rw [show (81:Int)=((81:UInt8).toNat:Int) from rfl,show (113:Int)=((113:UInt8).toNat:Int) from rfl,u8n,u8n]
      by_cases k3:k=81
      .refine cond_t (by simpa using k3) (four _ (by simp [k3]))
      .refine cond_f (by simpa using k3) (four _ (by rw [Bool.eq_iff_iff]; simp [k3]))
    rw [show (66:Int)=((66:UInt8).toNat:Int) from rfl,show (98:Int)=((98:UInt8).toNat:Int) from rfl,u8n,u8n]
    by_cases k3:k=66
    .refine cond_t (by simpa using k3) (two _ (by simp [k3]))
    .refine cond_f (by simpa using k3) (two _ (by rw [Bool.eq_iff_iff]; simp [k3]))
def sp_one:List AV->Option (AV×Option Prop)
 | [.p (.str s),.p (.int .i64 i)]=>some (.tup [.p (.str ((oneS s i).1)),.p (.int .i64 ((oneS s i).2.1)),.p (.bool ((oneS s i).2.2))],some (wposok s i))
 | _=>none
theorem ok_one:SpecOk Tryz.prog 79 sp_one:=by
 intro zs r ok he hok
 unfold sp_one at he
 split at he
 .cases he; exact ⟨by kernel_rfl,fn_one 0 _ _ _ fun hx=>one_eq _ _ hok⟩
 .cases he
end Go.Proofs.YtampckbjinodgaaGreatDoor
