/-
  Lifted functions, and facts about them.
-/
import Derived.Test.YtampckbjinodgaaGreatDoorRows
import Derived.Test.YtampckbjinodgaaGreatDoorAmC
import Derived.Test.YtampckbjinodgaaGreatDoorC04
import Derived.Test.YtampckbjinodgaaGreatDoorC01
namespace Go.Proofs.YtampckbjinodgaaGreatDoor
open Go Go.Am
set_option linter.unusedVariables false
def BLoose_2 (fuel:Nat)  (vb4:List UInt8):Option (List UInt8):=some vb4
def BLoose_1 (fuel:Nat)  (vi1:Int) (vi2:Int) (vb3:List UInt8):Option (List UInt8):=if (vi2==(2:Int))=true then (if (0<=(4:Int))/\((vb3.length+[UInt8.ofNat (IntKind.u8.wrap (vi1.fdiv (2 ^ (min ((4:Int)).toNat 64)))).toNat].length) * 1<=140737488355328) then (BLoose_2 fuel (vb3++[UInt8.ofNat (IntKind.u8.wrap (vi1.fdiv (2 ^ (min ((4:Int)).toNat 64)))).toNat])) else none) else (if (vi2==(3:Int))=true then (if (0<=(10:Int))/\(0<=(2:Int))/\((vb3.length+[UInt8.ofNat (IntKind.u8.wrap (vi1.fdiv (2 ^ (min ((10:Int)).toNat 64)))).toNat,UInt8.ofNat (IntKind.u8.wrap (vi1.fdiv (2 ^ (min ((2:Int)).toNat 64)))).toNat].length) * 1<=140737488355328) then (BLoose_2 fuel (vb3++[UInt8.ofNat (IntKind.u8.wrap (vi1.fdiv (2 ^ (min ((10:Int)).toNat 64)))).toNat,UInt8.ofNat (IntKind.u8.wrap (vi1.fdiv (2 ^ (min ((2:Int)).toNat 64)))).toNat])) else none) else (BLoose_2 fuel vb3))
def BLoose_4 (fuel:Nat) (k3:List UInt8->Int->Int->Int->Int->List UInt8->Option (List UInt8)) (s:List UInt8) (vi10 vi11 vi7 vi8:Int) (vb12:List UInt8):Option (List UInt8):=if i64ok (vi8+(1:Int)) then (k3 s vi10 vi11 vi7 (vi8+(1:Int)) vb12) else none
def BLoose_3 (fuel:Nat) :Nat->List UInt8->Int->Int->Int->Int->List UInt8->Option (List UInt8)
 | 0,_,_,_,_,_,_=>none
 | f3+1,s,vi5,vi6,vi7,vi8,vb9=>if (decide (vi8 < vi7))=true then (if 0<=vi8/\vi8 < (s.length:Int) then (if (((s.getD (vi8).toNat 0).toNat:Int)==(61:Int))=true then (BLoose_1 fuel vi5 vi6 vb9) else (if 0<=vi8/\vi8 < (s.length:Int) then (if (decide ((ixS LB_7543b37f ((s.getD (vi8).toNat 0).toNat:Int)) < (0:Int)))=true then (BLoose_4 fuel (BLoose_3 fuel f3) s vi5 vi6 vi7 vi8 vb9) else (if 0<=(6:Int) then (if i64ok (vi6+(1:Int)) then (if ((vi6+(1:Int))==(4:Int))=true then (if (0<=(16:Int))/\(0<=(8:Int))/\((vb9.length+[UInt8.ofNat (IntKind.u8.wrap ((ibits .or .i64 (IntKind.i64.wrap (vi5 * 2 ^ (min ((6:Int)).toNat 64))) (ixS LB_7543b37f ((s.getD (vi8).toNat 0).toNat:Int))).fdiv (2 ^ (min ((16:Int)).toNat 64)))).toNat,UInt8.ofNat (IntKind.u8.wrap ((ibits .or .i64 (IntKind.i64.wrap (vi5 * 2 ^ (min ((6:Int)).toNat 64))) (ixS LB_7543b37f ((s.getD (vi8).toNat 0).toNat:Int))).fdiv (2 ^ (min ((8:Int)).toNat 64)))).toNat,UInt8.ofNat (IntKind.u8.wrap (ibits .or .i64 (IntKind.i64.wrap (vi5 * 2 ^ (min ((6:Int)).toNat 64))) (ixS LB_7543b37f ((s.getD (vi8).toNat 0).toNat:Int)))).toNat].length) * 1<=140737488355328) then (BLoose_4 fuel (BLoose_3 fuel f3) s (0:Int) (0:Int) vi7 vi8 (vb9++[UInt8.ofNat (IntKind.u8.wrap ((ibits .or .i64 (IntKind.i64.wrap (vi5 * 2 ^ (min ((6:Int)).toNat 64))) (ixS LB_7543b37f ((s.getD (vi8).toNat 0).toNat:Int))).fdiv (2 ^ (min ((16:Int)).toNat 64)))).toNat,UInt8.ofNat (IntKind.u8.wrap ((ibits .or .i64 (IntKind.i64.wrap (vi5 * 2 ^ (min ((6:Int)).toNat 64))) (ixS LB_7543b37f ((s.getD (vi8).toNat 0).toNat:Int))).fdiv (2 ^ (min ((8:Int)).toNat 64)))).toNat,UInt8.ofNat (IntKind.u8.wrap (ibits .or .i64 (IntKind.i64.wrap (vi5 * 2 ^ (min ((6:Int)).toNat 64))) (ixS LB_7543b37f ((s.getD (vi8).toNat 0).toNat:Int)))).toNat])) else none) else (BLoose_4 fuel (BLoose_3 fuel f3) s (ibits .or .i64 (IntKind.i64.wrap (vi5 * 2 ^ (min ((6:Int)).toNat 64))) (ixS LB_7543b37f ((s.getD (vi8).toNat 0).toNat:Int))) (vi6+(1:Int)) vi7 vi8 vb9)) else none) else none)) else none)) else none) else (BLoose_1 fuel vi5 vi6 vb9)
def FLoose (fuel:Nat) (s:List UInt8):Option (List UInt8):=BLoose_3 fuel fuel s (0:Int) (0:Int) (s.length:Int) (0:Int) []
noncomputable def cLoose:Code:=bodyOf Tryz.f114
def envLoose:Env:=mkEnv [(74,sp_ixb)]
theorem envLoose_ok:EnvOk Tryz.prog envLoose:=EnvOk_mk ⟨ok_ixb.any,trivial⟩
theorem TLoose (fuel:Nat) (s res:List UInt8) (h:FLoose fuel s=some res) (C:Ctx) (hC:CtxOk C 65 []):
 T Tryz.prog C (at_ cLoose []) (mkS [(0,.p (.str s))] []) (Qend Tryz.prog C Tryz.f114.results.toList (.p (.str res))):=by
 have henv:=envLoose_ok
 unfold FLoose at h
 refine T_seqp (p:=[]) (by kernel_rfl) ?_
 refine T_reg henv hC [] [(0,.p (.str s))] [] [] (by kernel_rfl) (by kernel_rfl) trivial (fun s1 hs1=>?_)
 refine (T.weaken ?_ hs1:T Tryz.prog C (at_ cLoose [1]) _ _)
 refine T_seqp (p:=[1]) (by kernel_rfl) ?_
 refine T_reg henv hC [(3,none)] [(0,.p (.str s)),(3,.arr 3)] [(3,.barr 5 false [])] [] (by kernel_rfl) (by kernel_rfl) trivial (fun s1 hs1=>?_)
 refine (T.weaken ?_ hs1:T Tryz.prog C (at_ cLoose [1,1]) _ _)
 refine T_seqp (p:=[1,1]) (by kernel_rfl) ?_
 refine T_reg henv hC [(3,some 3)] [(0,.p (.str s)),(3,.arr 3),(4,.p (.int .i64 (0:Int))),(5,.p (.int .i64 (0:Int)))] [(3,.barr 5 false [])] [] (by kernel_rfl) (by kernel_rfl) trivial (fun s1 hs1=>?_)
 refine (T.weaken ?_ hs1:T Tryz.prog C (at_ cLoose [1,1,1]) _ _)
 refine T_join (p:=[1,1,1]) (by kernel_rfl) (fun s2=>∃ (vi1:Int) (vi2:Int) (vb3:List UInt8),BLoose_1 fuel vi1 vi2 vb3=some res/\Sub C s2 (mkS [(3,.arr 3),(4,.p (.int .i64 vi1)),(5,.p (.int .i64 vi2))] [(3,.barr 5 false vb3)])) ?_ ?_
 .refine T_seqp (p:=[1,1,1,0]) (by kernel_rfl) ?_
  refine T_reg henv hC [(3,some 3)] [(0,.p (.str s)),(3,.arr 3),(4,.p (.int .i64 (0:Int))),(5,.p (.int .i64 (0:Int))),(9,.p (.int .i64 (s.length:Int))),(10,.p (.int .i64 (0:Int)))] [(3,.barr 5 false [])] [] (by kernel_rfl) (by kernel_rfl) trivial (fun s1 hs1=>?_)
  refine (T.weaken ?_ hs1:T Tryz.prog C (at_ cLoose [1,1,1,0,1]) _ _)
  refine T_blockp (p:=[1,1,1,0,1]) 0 (by kernel_rfl) ?_
  refine T.weaken ?_ (Sub_view (l:=[(0,.p (.str s)),(3,.arr 3),(4,.p (.int .i64 (0:Int))),(5,.p (.int .i64 (0:Int))),(9,.p (.int .i64 (s.length:Int))),(10,.p (.int .i64 (0:Int)))]) (o:=[(3,.barr 5 false [])]) hC [(3,some 3)] (by kernel_rfl) (by kernel_rfl) (by kernel_rfl))
  refine T_loopp (p:=[1,1,1,0,1,0]) (by kernel_rfl) (fun f3 s2=>∃ (s:List UInt8) (vi5:Int) (vi6:Int) (vi7:Int) (vi8:Int) (vb9:List UInt8),s2=mkS [(0,.p (.str s)),(3,.arr 3),(4,.p (.int .i64 vi5)),(5,.p (.int .i64 vi6)),(9,.p (.int .i64 vi7)),(10,.p (.int .i64 vi8))] [(3,.barr 5 false vb9)]/\BLoose_3 fuel f3 s vi5 vi6 vi7 vi8 vb9=some res) ?_ fuel ⟨s,(0:Int),(0:Int),(s.length:Int),(0:Int),[],rfl,h⟩
  rintro f3 s2 ⟨s,vi5,vi6,vi7,vi8,vb9,rfl,h⟩
  cases f3 with
  | zero=>cases h
  | succ f3=>
   rw [BLoose_3] at h
   refine T_seqp (p:=[1,1,1,0,1,0,0]) (by kernel_rfl) ?_
   refine T_reg henv hC [(3,some 3)] [(0,.p (.str s)),(3,.arr 3),(4,.p (.int .i64 vi5)),(5,.p (.int .i64 vi6)),(9,.p (.int .i64 vi7)),(10,.p (.int .i64 vi8)),(11,.p (.bool (decide (vi8 < vi7))))] [(3,.barr 5 false vb9)] [] (by kernel_rfl) (by kernel_rfl) trivial (fun s1 hs1=>?_)
   refine (T.weaken ?_ hs1:T Tryz.prog C (at_ cLoose [1,1,1,0,1,0,0,1]) _ _)
   refine T_seqp (p:=[1,1,1,0,1,0,0,1]) (by kernel_rfl) ?_
   refine T_condp (p:=[1,1,1,0,1,0,0,1,0]) (by kernel_rfl) (decide (vi8 < vi7)) (by kernel_rfl) (fun hb=>?_) (fun hb=>?_)
   .have h:=ite_t h hb
    refine T_skipp (p:=[1,1,1,0,1,0,0,1,0,0]) (by kernel_rfl) ?_
    refine (T.weaken ?_ (Sub.refl _):T Tryz.prog C (at_ cLoose [1,1,1,0,1,0,0,1,1]) _ _)
    refine T_join (p:=[1,1,1,0,1,0,0,1,1]) (by kernel_rfl) (fun s2=>∃ (s:List UInt8) (vi10:Int) (vi11:Int) (vi7:Int) (vi8:Int) (vb12:List UInt8),BLoose_4 fuel (BLoose_3 fuel f3) s vi10 vi11 vi7 vi8 vb12=some res/\Sub C s2 (mkS [(0,.p (.str s)),(3,.arr 3),(4,.p (.int .i64 vi10)),(5,.p (.int .i64 vi11)),(9,.p (.int .i64 vi7)),(10,.p (.int .i64 vi8))] [(3,.barr 5 false vb12)])) ?_ ?_
    .refine T_blockp (p:=[1,1,1,0,1,0,0,1,1,0]) 1 (by kernel_rfl) ?_
     refine T_seqp (p:=[1,1,1,0,1,0,0,1,1,0,0]) (by kernel_rfl) ?_
     refine T_reg henv hC [(3,some 3)] [(0,.p (.str s)),(3,.arr 3),(4,.p (.int .i64 vi5)),(5,.p (.int .i64 vi6)),(6,.p (.int .i64 vi8)),(9,.p (.int .i64 vi7)),(10,.p (.int .i64 vi8))] [(3,.barr 5 false vb9)] [] (by kernel_rfl) (by kernel_rfl) trivial (fun s1 hs1=>?_)
     refine (T.weaken ?_ hs1:T Tryz.prog C (at_ cLoose [1,1,1,0,1,0,0,1,1,0,0,1]) _ _)
     refine T_seqp (p:=[1,1,1,0,1,0,0,1,1,0,0,1]) (by kernel_rfl) ?_
     refine T_seqp (p:=[1,1,1,0,1,0,0,1,1,0,0,1,0]) (by kernel_rfl) ?_
     obtain ⟨hob,h⟩:=ite_get h
     refine T_reg henv hC [(3,some 3)] [(0,.p (.str s)),(3,.arr 3),(4,.p (.int .i64 vi5)),(5,.p (.int .i64 vi6)),(6,.p (.int .i64 vi8)),(9,.p (.int .i64 vi7)),(10,.p (.int .i64 vi8)),(16,.p (.bool (((s.getD (vi8).toNat 0).toNat:Int)==(61:Int))))] [(3,.barr 5 false vb9)] [0<=vi8/\vi8 < (s.length:Int)] (by kernel_rfl) (by kernel_rfl) ⟨hob,trivial⟩ (fun s1 hs1=>?_)
     refine (T.weaken ?_ hs1:T Tryz.prog C (at_ cLoose [1,1,1,0,1,0,0,1,1,0,0,1,0,1]) _ _)
     refine T_condp (p:=[1,1,1,0,1,0,0,1,1,0,0,1,0,1]) (by kernel_rfl) (((s.getD (vi8).toNat 0).toNat:Int)==(61:Int)) (by kernel_rfl) (fun hb=>?_) (fun hb=>?_)
     .have h:=ite_t h hb
      refine T_exitp (p:=[1,1,1,0,1,0,0,1,1,0,0,1,0,1,0]) 0 (by kernel_rfl) ?_
      refine then_exit ?_
      refine inblock_miss (by decide) ?_
      refine then_exit ?_
      refine then_exit ?_
      refine inblock_hit ?_
      exact ⟨vi5,vi6,vb9,h,Sub.trans (Sub.refl _) (Sub_view hC [(3,some 3)] (by kernel_rfl) (by kernel_rfl) (by kernel_rfl))⟩
     .have h:=ite_f h hb
      refine T_skipp (p:=[1,1,1,0,1,0,0,1,1,0,0,1,0,1,1]) (by kernel_rfl) ?_
      refine (T.weaken ?_ (Sub.refl _):T Tryz.prog C (at_ cLoose [1,1,1,0,1,0,0,1,1,0,0,1,1]) _ _)
      refine T_seqp (p:=[1,1,1,0,1,0,0,1,1,0,0,1,1]) (by kernel_rfl) ?_
      obtain ⟨hob,h⟩:=ite_get h
      refine T_reg henv hC [(3,some 3)] [(0,.p (.str s)),(3,.arr 3),(4,.p (.int .i64 vi5)),(5,.p (.int .i64 vi6)),(7,.p (.int .i64 (ixS LB_7543b37f ((s.getD (vi8).toNat 0).toNat:Int)))),(9,.p (.int .i64 vi7)),(10,.p (.int .i64 vi8))] [(3,.barr 5 false vb9)] [0<=vi8/\vi8 < (s.length:Int)] (by kernel_rfl) (by kernel_rfl) ⟨hob,trivial⟩ (fun s1 hs1=>?_)
      refine (T.weaken ?_ hs1:T Tryz.prog C (at_ cLoose [1,1,1,0,1,0,0,1,1,0,0,1,1,1]) _ _)
      refine T_seqp (p:=[1,1,1,0,1,0,0,1,1,0,0,1,1,1]) (by kernel_rfl) ?_
      refine T_seqp (p:=[1,1,1,0,1,0,0,1,1,0,0,1,1,1,0]) (by kernel_rfl) ?_
      refine T_reg henv hC [(3,some 3)] [(0,.p (.str s)),(3,.arr 3),(4,.p (.int .i64 vi5)),(5,.p (.int .i64 vi6)),(7,.p (.int .i64 (ixS LB_7543b37f ((s.getD (vi8).toNat 0).toNat:Int)))),(9,.p (.int .i64 vi7)),(10,.p (.int .i64 vi8)),(22,.p (.bool (decide ((ixS LB_7543b37f ((s.getD (vi8).toNat 0).toNat:Int)) < (0:Int)))))] [(3,.barr 5 false vb9)] [] (by kernel_rfl) (by kernel_rfl) trivial (fun s1 hs1=>?_)
      refine (T.weaken ?_ hs1:T Tryz.prog C (at_ cLoose [1,1,1,0,1,0,0,1,1,0,0,1,1,1,0,1]) _ _)
      refine T_condp (p:=[1,1,1,0,1,0,0,1,1,0,0,1,1,1,0,1]) (by kernel_rfl) (decide ((ixS LB_7543b37f ((s.getD (vi8).toNat 0).toNat:Int)) < (0:Int))) (by kernel_rfl) (fun hb=>?_) (fun hb=>?_)
      .have h:=ite_t h hb
       refine T_exitp (p:=[1,1,1,0,1,0,0,1,1,0,0,1,1,1,0,1,0]) 1 (by kernel_rfl) ?_
       refine then_exit ?_
       refine inblock_hit ?_
       exact ⟨s,vi5,vi6,vi7,vi8,vb9,h,Sub.trans (Sub.refl _) (Sub_view hC [(3,some 3)] (by kernel_rfl) (by kernel_rfl) (by kernel_rfl))⟩
      .have h:=ite_f h hb
       refine T_skipp (p:=[1,1,1,0,1,0,0,1,1,0,0,1,1,1,0,1,1]) (by kernel_rfl) ?_
       refine (T.weaken ?_ (Sub.refl _):T Tryz.prog C (at_ cLoose [1,1,1,0,1,0,0,1,1,0,0,1,1,1,1]) _ _)
       refine T_seqp (p:=[1,1,1,0,1,0,0,1,1,0,0,1,1,1,1]) (by kernel_rfl) ?_
       obtain ⟨hob,h⟩:=ite_get h
       refine T_reg henv hC [(3,some 3)] [(0,.p (.str s)),(3,.arr 3),(4,.p (.int .i64 (ibits .or .i64 (IntKind.i64.wrap (vi5 * 2 ^ (min ((6:Int)).toNat 64))) (ixS LB_7543b37f ((s.getD (vi8).toNat 0).toNat:Int))))),(5,.p (.int .i64 vi6)),(9,.p (.int .i64 vi7)),(10,.p (.int .i64 vi8))] [(3,.barr 5 false vb9)] [0<=(6:Int)] (by kernel_rfl) (by kernel_rfl) ⟨hob,trivial⟩ (fun s1 hs1=>?_)
       refine (T.weaken ?_ hs1:T Tryz.prog C (at_ cLoose [1,1,1,0,1,0,0,1,1,0,0,1,1,1,1,1]) _ _)
       refine T_seqp (p:=[1,1,1,0,1,0,0,1,1,0,0,1,1,1,1,1]) (by kernel_rfl) ?_
       obtain ⟨hob,h⟩:=ite_get h
       refine T_reg henv hC [(3,some 3)] [(0,.p (.str s)),(3,.arr 3),(4,.p (.int .i64 (ibits .or .i64 (IntKind.i64.wrap (vi5 * 2 ^ (min ((6:Int)).toNat 64))) (ixS LB_7543b37f ((s.getD (vi8).toNat 0).toNat:Int))))),(5,.p (.int .i64 (vi6+(1:Int)))),(9,.p (.int .i64 vi7)),(10,.p (.int .i64 vi8))] [(3,.barr 5 false vb9)] [i64ok (vi6+(1:Int))] (by kernel_rfl) (by kernel_rfl) ⟨hob,trivial⟩ (fun s1 hs1=>?_)
       refine (T.weaken ?_ hs1:T Tryz.prog C (at_ cLoose [1,1,1,0,1,0,0,1,1,0,0,1,1,1,1,1,1]) _ _)
       refine T_seqp (p:=[1,1,1,0,1,0,0,1,1,0,0,1,1,1,1,1,1]) (by kernel_rfl) ?_
       refine T_reg henv hC [(3,some 3)] [(0,.p (.str s)),(3,.arr 3),(4,.p (.int .i64 (ibits .or .i64 (IntKind.i64.wrap (vi5 * 2 ^ (min ((6:Int)).toNat 64))) (ixS LB_7543b37f ((s.getD (vi8).toNat 0).toNat:Int))))),(5,.p (.int .i64 (vi6+(1:Int)))),(9,.p (.int .i64 vi7)),(10,.p (.int .i64 vi8)),(30,.p (.bool ((vi6+(1:Int))==(4:Int))))] [(3,.barr 5 false vb9)] [] (by kernel_rfl) (by kernel_rfl) trivial (fun s1 hs1=>?_)
       refine (T.weaken ?_ hs1:T Tryz.prog C (at_ cLoose [1,1,1,0,1,0,0,1,1,0,0,1,1,1,1,1,1,1]) _ _)
       refine T_condp (p:=[1,1,1,0,1,0,0,1,1,0,0,1,1,1,1,1,1,1]) (by kernel_rfl) ((vi6+(1:Int))==(4:Int)) (by kernel_rfl) (fun hb=>?_) (fun hb=>?_)
       .have h:=ite_t h hb
        refine T_seqp (p:=[1,1,1,0,1,0,0,1,1,0,0,1,1,1,1,1,1,1,0]) (by kernel_rfl) ?_
        obtain ⟨hob,h⟩:=ite_get h
        refine T_reg henv hC [(3,some 41)] [(0,.p (.str s)),(3,.arr 3),(9,.p (.int .i64 vi7)),(10,.p (.int .i64 vi8))] [(3,.barr 5 false (vb9++[UInt8.ofNat (IntKind.u8.wrap ((ibits .or .i64 (IntKind.i64.wrap (vi5 * 2 ^ (min ((6:Int)).toNat 64))) (ixS LB_7543b37f ((s.getD (vi8).toNat 0).toNat:Int))).fdiv (2 ^ (min ((16:Int)).toNat 64)))).toNat,UInt8.ofNat (IntKind.u8.wrap ((ibits .or .i64 (IntKind.i64.wrap (vi5 * 2 ^ (min ((6:Int)).toNat 64))) (ixS LB_7543b37f ((s.getD (vi8).toNat 0).toNat:Int))).fdiv (2 ^ (min ((8:Int)).toNat 64)))).toNat,UInt8.ofNat (IntKind.u8.wrap (ibits .or .i64 (IntKind.i64.wrap (vi5 * 2 ^ (min ((6:Int)).toNat 64))) (ixS LB_7543b37f ((s.getD (vi8).toNat 0).toNat:Int)))).toNat]))] [0<=(16:Int),0<=(8:Int),(vb9.length+[UInt8.ofNat (IntKind.u8.wrap ((ibits .or .i64 (IntKind.i64.wrap (vi5 * 2 ^ (min ((6:Int)).toNat 64))) (ixS LB_7543b37f ((s.getD (vi8).toNat 0).toNat:Int))).fdiv (2 ^ (min ((16:Int)).toNat 64)))).toNat,UInt8.ofNat (IntKind.u8.wrap ((ibits .or .i64 (IntKind.i64.wrap (vi5 * 2 ^ (min ((6:Int)).toNat 64))) (ixS LB_7543b37f ((s.getD (vi8).toNat 0).toNat:Int))).fdiv (2 ^ (min ((8:Int)).toNat 64)))).toNat,UInt8.ofNat (IntKind.u8.wrap (ibits .or .i64 (IntKind.i64.wrap (vi5 * 2 ^ (min ((6:Int)).toNat 64))) (ixS LB_7543b37f ((s.getD (vi8).toNat 0).toNat:Int)))).toNat].length) * 1<=140737488355328] (by kernel_rfl) (by kernel_rfl) ⟨hob.1,hob.2.1,hob.2.2,trivial⟩ (fun s1 hs1=>?_)
        refine (T.weaken ?_ hs1:T Tryz.prog C (at_ cLoose [1,1,1,0,1,0,0,1,1,0,0,1,1,1,1,1,1,1,0,1]) _ _)
        refine T_reg henv hC [(3,some 3)] [(0,.p (.str s)),(3,.arr 3),(4,.p (.int .i64 (0:Int))),(5,.p (.int .i64 (0:Int))),(9,.p (.int .i64 vi7)),(10,.p (.int .i64 vi8))] [(3,.barr 5 false (vb9++[UInt8.ofNat (IntKind.u8.wrap ((ibits .or .i64 (IntKind.i64.wrap (vi5 * 2 ^ (min ((6:Int)).toNat 64))) (ixS LB_7543b37f ((s.getD (vi8).toNat 0).toNat:Int))).fdiv (2 ^ (min ((16:Int)).toNat 64)))).toNat,UInt8.ofNat (IntKind.u8.wrap ((ibits .or .i64 (IntKind.i64.wrap (vi5 * 2 ^ (min ((6:Int)).toNat 64))) (ixS LB_7543b37f ((s.getD (vi8).toNat 0).toNat:Int))).fdiv (2 ^ (min ((8:Int)).toNat 64)))).toNat,UInt8.ofNat (IntKind.u8.wrap (ibits .or .i64 (IntKind.i64.wrap (vi5 * 2 ^ (min ((6:Int)).toNat 64))) (ixS LB_7543b37f ((s.getD (vi8).toNat 0).toNat:Int)))).toNat]))] [] (by kernel_rfl) (by kernel_rfl) trivial (fun s1 hs1=>?_)
        exact ⟨s,(0:Int),(0:Int),vi7,vi8,vb9++[UInt8.ofNat (IntKind.u8.wrap ((ibits .or .i64 (IntKind.i64.wrap (vi5 * 2 ^ (min ((6:Int)).toNat 64))) (ixS LB_7543b37f ((s.getD (vi8).toNat 0).toNat:Int))).fdiv (2 ^ (min ((16:Int)).toNat 64)))).toNat,UInt8.ofNat (IntKind.u8.wrap ((ibits .or .i64 (IntKind.i64.wrap (vi5 * 2 ^ (min ((6:Int)).toNat 64))) (ixS LB_7543b37f ((s.getD (vi8).toNat 0).toNat:Int))).fdiv (2 ^ (min ((8:Int)).toNat 64)))).toNat,UInt8.ofNat (IntKind.u8.wrap (ibits .or .i64 (IntKind.i64.wrap (vi5 * 2 ^ (min ((6:Int)).toNat 64))) (ixS LB_7543b37f ((s.getD (vi8).toNat 0).toNat:Int)))).toNat],h,Sub.trans hs1 (Sub_view hC [(3,some 3)] (by kernel_rfl) (by kernel_rfl) (by kernel_rfl))⟩
       .have h:=ite_f h hb
        refine T_skipp (p:=[1,1,1,0,1,0,0,1,1,0,0,1,1,1,1,1,1,1,1]) (by kernel_rfl) ?_
        exact ⟨s,ibits .or .i64 (IntKind.i64.wrap (vi5 * 2 ^ (min ((6:Int)).toNat 64))) (ixS LB_7543b37f ((s.getD (vi8).toNat 0).toNat:Int)),vi6+(1:Int),vi7,vi8,vb9,h,Sub.trans (Sub.refl _) (Sub_view hC [(3,some 3)] (by kernel_rfl) (by kernel_rfl) (by kernel_rfl))⟩
    .rintro s2 ⟨s,vi10,vi11,vi7,vi8,vb12,h,hs2⟩
     unfold BLoose_4 at h
     refine (T.weaken ?_ hs2:T Tryz.prog C (at_ cLoose [1,1,1,0,1,0,0,1,1,1]) _ _)
     obtain ⟨hob,h⟩:=ite_get h
     refine T_reg henv hC [(3,some 3)] [(0,.p (.str s)),(3,.arr 3),(4,.p (.int .i64 vi10)),(5,.p (.int .i64 vi11)),(9,.p (.int .i64 vi7)),(10,.p (.int .i64 (vi8+(1:Int))))] [(3,.barr 5 false vb12)] [i64ok (vi8+(1:Int))] (by kernel_rfl) (by kernel_rfl) ⟨hob,trivial⟩ (fun s1 hs1=>?_)
     exact ⟨f3,_,Nat.lt_succ_self f3,⟨s,vi10,vi11,vi7,vi8+(1:Int),vb12,rfl,h⟩,Sub.trans hs1 (Sub_view hC [(3,some 3)] (by kernel_rfl) (by kernel_rfl) (by kernel_rfl))⟩
   .have h:=ite_f h hb
    refine T_exitp (p:=[1,1,1,0,1,0,0,1,0,1]) 0 (by kernel_rfl) ?_
    refine then_exit ?_
    refine then_exit ?_
    refine inblock_hit ?_
    exact ⟨vi5,vi6,vb9,h,Sub.trans (Sub.refl _) (Sub_view hC [(3,some 3)] (by kernel_rfl) (by kernel_rfl) (by kernel_rfl))⟩
 .rintro s2 ⟨vi1,vi2,vb3,h,hs2⟩
  unfold BLoose_1 at h
  refine (T.weaken ?_ hs2:T Tryz.prog C (at_ cLoose [1,1,1,1]) _ _)
  refine T_join (p:=[1,1,1,1]) (by kernel_rfl) (fun s2=>∃ (vb4:List UInt8),BLoose_2 fuel vb4=some res/\Sub C s2 (mkS [(3,.arr 3)] [(3,.barr 5 false vb4)])) ?_ ?_
  .refine T_seqp (p:=[1,1,1,1,0]) (by kernel_rfl) ?_
   refine T_reg henv hC [(3,some 3)] [(3,.arr 3),(4,.p (.int .i64 vi1)),(43,.p (.int .i64 vi2))] [(3,.barr 5 false vb3)] [] (by kernel_rfl) (by kernel_rfl) trivial (fun s1 hs1=>?_)
   refine (T.weaken ?_ hs1:T Tryz.prog C (at_ cLoose [1,1,1,1,0,1]) _ _)
   refine T_blockp (p:=[1,1,1,1,0,1]) 2 (by kernel_rfl) ?_
   refine T_seqp (p:=[1,1,1,1,0,1,0]) (by kernel_rfl) ?_
   refine T_reg henv hC [(3,some 3)] [(3,.arr 3),(4,.p (.int .i64 vi1)),(43,.p (.int .i64 vi2)),(44,.p (.bool (vi2==(2:Int))))] [(3,.barr 5 false vb3)] [] (by kernel_rfl) (by kernel_rfl) trivial (fun s1 hs1=>?_)
   refine (T.weaken ?_ hs1:T Tryz.prog C (at_ cLoose [1,1,1,1,0,1,0,1]) _ _)
   refine T_condp (p:=[1,1,1,1,0,1,0,1]) (by kernel_rfl) (vi2==(2:Int)) (by kernel_rfl) (fun hb=>?_) (fun hb=>?_)
   .have h:=ite_t h hb
    obtain ⟨hob,h⟩:=ite_get h
    refine T_reg henv hC [(3,some 51)] [(3,.arr 3)] [(3,.barr 5 false (vb3++[UInt8.ofNat (IntKind.u8.wrap (vi1.fdiv (2 ^ (min ((4:Int)).toNat 64)))).toNat]))] [0<=(4:Int),(vb3.length+[UInt8.ofNat (IntKind.u8.wrap (vi1.fdiv (2 ^ (min ((4:Int)).toNat 64)))).toNat].length) * 1<=140737488355328] (by kernel_rfl) (by kernel_rfl) ⟨hob.1,hob.2,trivial⟩ (fun s1 hs1=>?_)
    exact ⟨vb3++[UInt8.ofNat (IntKind.u8.wrap (vi1.fdiv (2 ^ (min ((4:Int)).toNat 64)))).toNat],h,Sub.trans hs1 (Sub_view hC [(3,some 3)] (by kernel_rfl) (by kernel_rfl) (by kernel_rfl))⟩
   .have h:=ite_f h hb
    refine T_seqp (p:=[1,1,1,1,0,1,0,1,1]) (by kernel_rfl) ?_
    refine T_reg henv hC [(3,some 3)] [(3,.arr 3),(4,.p (.int .i64 vi1)),(52,.p (.bool (vi2==(3:Int))))] [(3,.barr 5 false vb3)] [] (by kernel_rfl) (by kernel_rfl) trivial (fun s1 hs1=>?_)
    refine (T.weaken ?_ hs1:T Tryz.prog C (at_ cLoose [1,1,1,1,0,1,0,1,1,1]) _ _)
    refine T_condp (p:=[1,1,1,1,0,1,0,1,1,1]) (by kernel_rfl) (vi2==(3:Int)) (by kernel_rfl) (fun hb=>?_) (fun hb=>?_)
    .have h:=ite_t h hb
     obtain ⟨hob,h⟩:=ite_get h
     refine T_reg henv hC [(3,some 62)] [(3,.arr 3)] [(3,.barr 5 false (vb3++[UInt8.ofNat (IntKind.u8.wrap (vi1.fdiv (2 ^ (min ((10:Int)).toNat 64)))).toNat,UInt8.ofNat (IntKind.u8.wrap (vi1.fdiv (2 ^ (min ((2:Int)).toNat 64)))).toNat]))] [0<=(10:Int),0<=(2:Int),(vb3.length+[UInt8.ofNat (IntKind.u8.wrap (vi1.fdiv (2 ^ (min ((10:Int)).toNat 64)))).toNat,UInt8.ofNat (IntKind.u8.wrap (vi1.fdiv (2 ^ (min ((2:Int)).toNat 64)))).toNat].length) * 1<=140737488355328] (by kernel_rfl) (by kernel_rfl) ⟨hob.1,hob.2.1,hob.2.2,trivial⟩ (fun s1 hs1=>?_)
     exact ⟨vb3++[UInt8.ofNat (IntKind.u8.wrap (vi1.fdiv (2 ^ (min ((10:Int)).toNat 64)))).toNat,UInt8.ofNat (IntKind.u8.wrap (vi1.fdiv (2 ^ (min ((2:Int)).toNat 64)))).toNat],h,Sub.trans hs1 (Sub_view hC [(3,some 3)] (by kernel_rfl) (by kernel_rfl) (by kernel_rfl))⟩
    .have h:=ite_f h hb
     refine T_skipp (p:=[1,1,1,1,0,1,0,1,1,1,1]) (by kernel_rfl) ?_
     exact ⟨vb3,h,Sub.trans (Sub.refl _) (Sub_view hC [(3,some 3)] (by kernel_rfl) (by kernel_rfl) (by kernel_rfl))⟩
  .rintro s2 ⟨vb4,h,hs2⟩
   unfold BLoose_2 at h
   refine (T.weaken ?_ hs2:T Tryz.prog C (at_ cLoose [1,1,1,1,1]) _ _)
   refine T_seqp (p:=[1,1,1,1,1]) (by kernel_rfl) ?_
   refine T_reg henv hC [] [(2,.p (.str vb4))] [] [] (by kernel_rfl) (by kernel_rfl) trivial (fun s1 hs1=>?_)
   refine (T.weaken ?_ hs1:T Tryz.prog C (at_ cLoose [1,1,1,1,1,1]) _ _)
   refine T_retp (p:=[1,1,1,1,1,1]) (by kernel_rfl) ?_
   have h:=Option.some.inj h; subst h
   exact ⟨mkS [(2,.p (.str vb4))] [],(Sub.refl _),by kernel_rfl⟩
theorem fn_Loose (fuel:Nat) (s res:List UInt8) (h:(∃ M vs,ARels γ0 M [.p (.str s)] vs)->FLoose fuel s=some res):FnP Tryz.prog 114 [.p (.str s)] (.p (.str res)):=
 FnP_lift (fn:=Tryz.f114) (by kernel_rfl) (by kernel_rfl) fun M vs hvs C hC0=>have hC:CtxOk C 65 []:=⟨hC0.nt.trans (by kernel_rfl),hC0.fx⟩; T.weaken (TLoose fuel s res (h ⟨M,vs,hvs⟩) C hC) (sinit_sub hC (by kernel_rfl) (by kernel_rfl))
def valI (c:UInt8):Int:=ixS LB_7543b37f (c.toNat:Int)
theorem valI_range (c:UInt8):-1<=valI c/\valI c < 64:=by
 unfold valI ixS
 have h1:=Lib.indexByte_ge LB_7543b37f ((c.toNat:Int)).toNat.toUInt8
 have h2:=indexByte_lt LB_7543b37f ((c.toNat:Int)).toNat.toUInt8
 rw [alpha_len] at h2
 omega
def tailB (bits n:Nat):List UInt8:=if n=2 then [UInt8.ofNat (bits / 16)] else if n=3 then [UInt8.ofNat (bits / 1024),UInt8.ofNat (bits / 4)] else []
def looseG:Nat->Nat->List UInt8->List UInt8
 | bits,n,[]=>tailB bits n
 | bits,n,c::r=>if c=61 then tailB bits n else if valI c < 0 then looseG bits n r else
  if n+1=4 then [UInt8.ofNat ((bits * 64+(valI c).toNat) / 65536),UInt8.ofNat ((bits * 64+(valI c).toNat) / 256),UInt8.ofNat (bits * 64+(valI c).toNat)]++looseG 0 0 r
  else looseG (bits * 64+(valI c).toNat) (n+1) r
def looseB (s:List UInt8):List UInt8:=looseG 0 0 s
theorem BLoose_tail (fuel bits n:Nat) (b:List UInt8) (hb:bits < 16777216) (hl:b.length<=10000000):BLoose_1 fuel (bits:Int) (n:Int) b=some (b++tailB bits n):=by
 have e4:(min ((4:Int)).toNat 64)=4:=rfl
 have e10:(min ((10:Int)).toNat 64)=10:=rfl
 have e2:(min ((2:Int)).toNat 64)=2:=rfl
 unfold BLoose_1 BLoose_2 tailB
 rw [e4,e10,e2,fdiv_nat,fdiv_nat,fdiv_nat,u8_of,u8_of,u8_of]
 by_cases h2:n=2
 .rw [if_pos (by simp; omega),if_pos ⟨by omega,by simp; omega⟩,if_pos h2]
 .rw [if_neg (by simp; omega),if_neg h2]
  by_cases h3:n=3
  .rw [if_pos (by simp; omega),if_pos ⟨by omega,by omega,by simp; omega⟩,if_pos h3]
  .rw [if_neg (by simp; omega),if_neg h3]; simp
theorem BLoose_eq (fuel:Nat) (s:List UInt8) (hs:s.length<=1000000):∀ (f i bits n:Nat) (b:List UInt8),s.length < f+i->i<=s.length->n<=3->bits < 64 ^ n->b.length<=3 * i->
 BLoose_3 fuel f s (bits:Int) (n:Int) (s.length:Int) (i:Int) b=some (b++looseG bits n (s.drop i)):=by
 intro f
 induction f with
 | zero=>intro i bits n b h1 h2; omega
 | succ f ih=>
  intro i bits n b h1 h2 hn hbits h3
  have hp:64 ^ n<=64 ^ 3:=Nat.pow_le_pow_right (by decide) hn
  have hlt:bits < 262144:=Nat.lt_of_lt_of_le hbits hp
  cases hd:s.drop i with
  | nil=>
   have:s.length<=i:=by have:=congrArg List.length hd; simp at this; omega
   rw [BLoose_3,if_neg (by simp; omega),BLoose_tail fuel bits n b (by omega) (by omega),looseG]
  | cons c r=>
   obtain ⟨e1,e2,e3⟩:=drop_cons hd
   have next:∀ (bits' n':Nat) (b':List UInt8),n'<=3->bits' < 64 ^ n'->b'.length<=3 * (i+1)->BLoose_4 fuel (BLoose_3 fuel f) s (bits':Int) (n':Int) (s.length:Int) (i:Int) b'=some (b'++looseG bits' n' r):=by
    intro bits' n' b' hn' hb' hl'
    unfold BLoose_4
    rw [if_pos (ok64 (by omega) (by omega))]
    have:=ih (i+1) bits' n' b' (by omega) (by omega) hn' hb' hl'
    rw [e2] at this
    rw [<-this]; congr 1
   rw [BLoose_3,if_pos (by simp; omega),if_pos (by omega)]
   simp only [Int.toNat_natCast,e1]
   rw [looseG]
   by_cases hc:c=61
   .subst hc
    rw [if_pos (by simp),if_pos rfl,BLoose_tail fuel bits n b (by omega) (by omega)]
   .rw [if_neg (by simpa using fun e=>hc (u8_eq (d:=61) |>.1 e)),if_neg hc,if_pos (by omega)]
    have hv:=valI_range c
    change (if decide (valI c < 0)=true then _ else _)=_
    by_cases hv0:valI c < 0
    .rw [if_pos (by simpa using hv0),if_pos hv0]
     exact next bits n b hn hbits (by omega)
    .rw [if_neg (by simpa using hv0),if_neg hv0]
     obtain ⟨v,hv2⟩:=Int.eq_ofNat_of_zero_le (show 0<=valI c by omega)
     have e6:(2:Int) ^ (min ((6:Int)).toNat 64)=64:=rfl
     have x1:ibits .or .i64 (IntKind.i64.wrap ((bits:Int) * 2 ^ (min ((6:Int)).toNat 64))) (valI c)=((bits * 64+(valI c).toNat:Nat):Int):=by
      rw [hv2,e6,i64_small (by omega) (by omega),show (bits:Int) * 64=((bits * 64:Nat):Int) by simp,i64_or (by omega) (by omega)]
      have:=or_add bits v 6 (by omega)
      rw [show bits * 64=bits * 2 ^ 6 by rfl,this]; simp
     have hx:bits * 64+(valI c).toNat < 16777216:=by omega
     rw [if_pos (by omega),if_pos (ok64 (by omega) (by omega))]
     change (if _ then (if _/\_/\(b.length+[UInt8.ofNat (IntKind.u8.wrap ((ibits .or .i64 (IntKind.i64.wrap ((bits:Int) * 2 ^ (min ((6:Int)).toNat 64))) (valI c)).fdiv (2 ^ (min ((16:Int)).toNat 64)))).toNat,UInt8.ofNat (IntKind.u8.wrap ((ibits .or .i64 (IntKind.i64.wrap ((bits:Int) * 2 ^ (min ((6:Int)).toNat 64))) (valI c)).fdiv (2 ^ (min ((8:Int)).toNat 64)))).toNat,UInt8.ofNat (IntKind.u8.wrap (ibits .or .i64 (IntKind.i64.wrap ((bits:Int) * 2 ^ (min ((6:Int)).toNat 64))) (valI c))).toNat].length) * 1<=140737488355328 then BLoose_4 fuel (BLoose_3 fuel f) s (0:Int) (0:Int) (s.length:Int) (i:Int) (b++[UInt8.ofNat (IntKind.u8.wrap ((ibits .or .i64 (IntKind.i64.wrap ((bits:Int) * 2 ^ (min ((6:Int)).toNat 64))) (valI c)).fdiv (2 ^ (min ((16:Int)).toNat 64)))).toNat,UInt8.ofNat (IntKind.u8.wrap ((ibits .or .i64 (IntKind.i64.wrap ((bits:Int) * 2 ^ (min ((6:Int)).toNat 64))) (valI c)).fdiv (2 ^ (min ((8:Int)).toNat 64)))).toNat,UInt8.ofNat (IntKind.u8.wrap (ibits .or .i64 (IntKind.i64.wrap ((bits:Int) * 2 ^ (min ((6:Int)).toNat 64))) (valI c))).toNat]) else none) else BLoose_4 fuel (BLoose_3 fuel f) s (ibits .or .i64 (IntKind.i64.wrap ((bits:Int) * 2 ^ (min ((6:Int)).toNat 64))) (valI c)) _ (s.length:Int) (i:Int) b)=_
     have e16:(min ((16:Int)).toNat 64)=16:=rfl
     have e8:(min ((8:Int)).toNat 64)=8:=rfl
     rw [x1,e16,e8,fdiv_nat,fdiv_nat,u8_of,u8_of,u8_of]
     by_cases h4:n+1=4
     .rw [if_pos (by simp; omega),if_pos ⟨by omega,by omega,by simp; omega⟩,if_pos h4]
      refine (next 0 0 _ (by omega) (by decide) (by simp; omega)).trans ?_
      simp
     .rw [if_neg (by simp; omega),if_neg h4]
      refine next (bits * 64+(valI c).toNat) (n+1) b (by omega) ?_ (by omega)
      rw [Nat.pow_succ]; omega
theorem Loose_eq (s:List UInt8) (hs:s.length<=1000000):FLoose 1000001 s=some (looseB s):=by
 have:=BLoose_eq 1000001 s hs 1000001 0 0 0 [] (by omega) (by omega) (by omega) (by decide) (by simp)
 simpa [FLoose,looseB] using this
def sp_Loose:List AV->Option (AV×Option Prop):=spStr looseB
theorem ok_Loose:SpecOk Tryz.prog 114 sp_Loose:=spStr_ok (by kernel_rfl) fun s hs=>fn_Loose 1000001 s _ fun _=>Loose_eq s hs
end Go.Proofs.YtampckbjinodgaaGreatDoor
namespace Go.Proofs.YtampckbjinodgaaGreatDoor
open Go Go.Am
set_option linter.unusedVariables false
theorem tailB_len (bits n:Nat):(tailB bits n).length<=2:=by unfold tailB; split <;> (try split) <;> simp
theorem looseG_len:∀ (s:List UInt8) (bits n:Nat),(looseG bits n s).length<=3 * s.length+2
 | [],bits,n=>by rw [looseG]; have:=tailB_len bits n; simp; omega
 | c::r,bits,n=>by
  rw [looseG]
  have h0:=tailB_len bits n
  have h1:=looseG_len r
  split
  .simp; omega
  .split
   .have:=h1 bits n; simp; omega
   .split
    .have:=h1 0 0; simp; omega
    .have:=h1 (bits * 64+(valI c).toNat) (n+1); simp; omega
end Go.Proofs.YtampckbjinodgaaGreatDoor
namespace Go.Proofs.YtampckbjinodgaaGreatDoor
open Go Go.Am
set_option linter.unusedVariables false
def Fdigit (fuel:Nat) (c:Int):Option Int:=if ((decide (c>=(48:Int)))&&(decide (c<=(57:Int))))=true then (some (IntKind.u8.wrap (c - (48:Int)))) else (if ((decide (c>=(97:Int)))&&(decide (c<=(102:Int))))=true then (if i64ok ((IntKind.u8.wrap (c - (97:Int)))+(10:Int)) then (some ((IntKind.u8.wrap (c - (97:Int)))+(10:Int))) else none) else (if ((decide (c>=(65:Int)))&&(decide (c<=(70:Int))))=true then (if i64ok ((IntKind.u8.wrap (c - (65:Int)))+(10:Int)) then (some ((IntKind.u8.wrap (c - (65:Int)))+(10:Int))) else none) else (some (-1:Int))))
noncomputable def cdigit:Code:=bodyOf Tryz.f144
def envdigit:Env:=mkEnv []
theorem envdigit_ok:EnvOk Tryz.prog envdigit:=EnvOk_mk trivial
theorem Tdigit (fuel:Nat) (c res:Int) (h:Fdigit fuel c=some res) (C:Ctx) (hC:CtxOk C 35 []):
 T Tryz.prog C (at_ cdigit []) (mkS [(0,.p (.int .u8 c))] []) (Qend Tryz.prog C Tryz.f144.results.toList (.p (.int .i64 res))):=by
 have henv:=envdigit_ok
 unfold Fdigit at h
 refine T_seqp (p:=[]) (by kernel_rfl) ?_
 refine T_reg henv hC [] [(0,.p (.int .u8 c))] [] [] (by kernel_rfl) (by kernel_rfl) trivial (fun s1 hs1=>?_)
 refine (T.weaken ?_ hs1:T Tryz.prog C (at_ cdigit [1]) _ _)
 refine T_seqp (p:=[1]) (by kernel_rfl) ?_
 refine T_blockp (p:=[1,0]) 0 (by kernel_rfl) ?_
 refine T_seqp (p:=[1,0,0]) (by kernel_rfl) ?_
 refine T_reg henv hC [] [(0,.p (.int .u8 c)),(3,.p (.bool ((decide (c>=(48:Int)))&&(decide (c<=(57:Int))))))] [] [(decide (c>=(48:Int)))=true->(decide (c>=(48:Int)))=true,(decide (c>=(48:Int)))=true->(decide (c>=(48:Int)))=true] (by kernel_rfl) (by kernel_rfl) ⟨(fun q0=>q0),(fun q0=>q0),trivial⟩ (fun s1 hs1=>?_)
 refine (T.weaken ?_ hs1:T Tryz.prog C (at_ cdigit [1,0,0,1]) _ _)
 refine T_condp (p:=[1,0,0,1]) (by kernel_rfl) ((decide (c>=(48:Int)))&&(decide (c<=(57:Int)))) (by kernel_rfl) (fun hb=>?_) (fun hb=>?_)
 .have h:=ite_t h hb
  refine T_seqp (p:=[1,0,0,1,0]) (by kernel_rfl) ?_
  refine T_reg henv hC [] [(2,.p (.int .i64 (IntKind.u8.wrap (c - (48:Int)))))] [] [] (by kernel_rfl) (by kernel_rfl) trivial (fun s1 hs1=>?_)
  refine (T.weaken ?_ hs1:T Tryz.prog C (at_ cdigit [1,0,0,1,0,1]) _ _)
  refine T_retp (p:=[1,0,0,1,0,1]) (by kernel_rfl) ?_
  refine inblock_ret ?_
  refine then_ret ?_
  have h:=Option.some.inj h; subst h
  exact ⟨mkS [(2,.p (.int .i64 (IntKind.u8.wrap (c - (48:Int)))))] [],(Sub.refl _),by kernel_rfl⟩
 .have h:=ite_f h hb
  refine T_seqp (p:=[1,0,0,1,1]) (by kernel_rfl) ?_
  refine T_reg henv hC [] [(0,.p (.int .u8 c)),(13,.p (.bool ((decide (c>=(97:Int)))&&(decide (c<=(102:Int))))))] [] [(decide (c>=(97:Int)))=true->(decide (c>=(97:Int)))=true,(decide (c>=(97:Int)))=true->(decide (c>=(97:Int)))=true] (by kernel_rfl) (by kernel_rfl) ⟨(fun q0=>q0),(fun q0=>q0),trivial⟩ (fun s1 hs1=>?_)
  refine (T.weaken ?_ hs1:T Tryz.prog C (at_ cdigit [1,0,0,1,1,1]) _ _)
  refine T_condp (p:=[1,0,0,1,1,1]) (by kernel_rfl) ((decide (c>=(97:Int)))&&(decide (c<=(102:Int)))) (by kernel_rfl) (fun hb=>?_) (fun hb=>?_)
  .have h:=ite_t h hb
   refine T_seqp (p:=[1,0,0,1,1,1,0]) (by kernel_rfl) ?_
   obtain ⟨hob,h⟩:=ite_get h
   refine T_reg henv hC [] [(2,.p (.int .i64 ((IntKind.u8.wrap (c - (97:Int)))+(10:Int))))] [] [i64ok ((IntKind.u8.wrap (c - (97:Int)))+(10:Int))] (by kernel_rfl) (by kernel_rfl) ⟨hob,trivial⟩ (fun s1 hs1=>?_)
   refine (T.weaken ?_ hs1:T Tryz.prog C (at_ cdigit [1,0,0,1,1,1,0,1]) _ _)
   refine T_retp (p:=[1,0,0,1,1,1,0,1]) (by kernel_rfl) ?_
   refine inblock_ret ?_
   refine then_ret ?_
   have h:=Option.some.inj h; subst h
   exact ⟨mkS [(2,.p (.int .i64 ((IntKind.u8.wrap (c - (97:Int)))+(10:Int))))] [],(Sub.refl _),by kernel_rfl⟩
  .have h:=ite_f h hb
   refine T_seqp (p:=[1,0,0,1,1,1,1]) (by kernel_rfl) ?_
   refine T_reg henv hC [] [(0,.p (.int .u8 c)),(24,.p (.bool ((decide (c>=(65:Int)))&&(decide (c<=(70:Int))))))] [] [(decide (c>=(65:Int)))=true->(decide (c>=(65:Int)))=true,(decide (c>=(65:Int)))=true->(decide (c>=(65:Int)))=true] (by kernel_rfl) (by kernel_rfl) ⟨(fun q0=>q0),(fun q0=>q0),trivial⟩ (fun s1 hs1=>?_)
   refine (T.weaken ?_ hs1:T Tryz.prog C (at_ cdigit [1,0,0,1,1,1,1,1]) _ _)
   refine T_condp (p:=[1,0,0,1,1,1,1,1]) (by kernel_rfl) ((decide (c>=(65:Int)))&&(decide (c<=(70:Int)))) (by kernel_rfl) (fun hb=>?_) (fun hb=>?_)
   .have h:=ite_t h hb
    refine T_seqp (p:=[1,0,0,1,1,1,1,1,0]) (by kernel_rfl) ?_
    obtain ⟨hob,h⟩:=ite_get h
    refine T_reg henv hC [] [(2,.p (.int .i64 ((IntKind.u8.wrap (c - (65:Int)))+(10:Int))))] [] [i64ok ((IntKind.u8.wrap (c - (65:Int)))+(10:Int))] (by kernel_rfl) (by kernel_rfl) ⟨hob,trivial⟩ (fun s1 hs1=>?_)
    refine (T.weaken ?_ hs1:T Tryz.prog C (at_ cdigit [1,0,0,1,1,1,1,1,0,1]) _ _)
    refine T_retp (p:=[1,0,0,1,1,1,1,1,0,1]) (by kernel_rfl) ?_
    refine inblock_ret ?_
    refine then_ret ?_
    have h:=Option.some.inj h; subst h
    exact ⟨mkS [(2,.p (.int .i64 ((IntKind.u8.wrap (c - (65:Int)))+(10:Int))))] [],(Sub.refl _),by kernel_rfl⟩
   .have h:=ite_f h hb
    refine T_skipp (p:=[1,0,0,1,1,1,1,1,1]) (by kernel_rfl) ?_
    refine (T.weaken ?_ (Sub.refl _):T Tryz.prog C (at_ cdigit [1,1]) _ _)
    refine T_seqp (p:=[1,1]) (by kernel_rfl) ?_
    refine T_reg henv hC [] [(2,.p (.int .i64 (-1:Int)))] [] [] (by kernel_rfl) (by kernel_rfl) trivial (fun s1 hs1=>?_)
    refine (T.weaken ?_ hs1:T Tryz.prog C (at_ cdigit [1,1,1]) _ _)
    refine T_retp (p:=[1,1,1]) (by kernel_rfl) ?_
    have h:=Option.some.inj h; subst h
    exact ⟨mkS [(2,.p (.int .i64 (-1:Int)))] [],(Sub.refl _),by kernel_rfl⟩
theorem fn_digit (fuel:Nat) (c res:Int) (h:(∃ M vs,ARels γ0 M [.p (.int .u8 c)] vs)->Fdigit fuel c=some res):FnP Tryz.prog 144 [.p (.int .u8 c)] (.p (.int .i64 res)):=
 FnP_lift (fn:=Tryz.f144) (by kernel_rfl) (by kernel_rfl) fun M vs hvs C hC0=>have hC:CtxOk C 35 []:=⟨hC0.nt.trans (by kernel_rfl),hC0.fx⟩; T.weaken (Tdigit fuel c res (h ⟨M,vs,hvs⟩) C hC) (sinit_sub hC (by kernel_rfl) (by kernel_rfl))
def digitS (c:Int):Int:=if 48<=c/\c<=57 then c - 48 else if 97<=c/\c<=102 then c - 87 else if 65<=c/\c<=70 then c - 55 else -1
theorem u8_small {n:Int} (h0:0<=n) (h1:n < 256):IntKind.u8.wrap n=n:=by
 have e:(2:Int) ^ IntKind.u8.bits=256:=rfl
 have e2:IntKind.u8.signed=false:=rfl
 simp only [IntKind.wrap,e,e2,Bool.false_and,Bool.false_eq_true,if_false]
 omega
theorem i64ok_small {n:Int} (h0:-1000000000000<=n) (h1:n<=1000000000000):i64ok n:=by
 unfold i64ok
 omega
theorem Fdigit_eq (c:Int):Fdigit 0 c=some (digitS c):=by
 unfold Fdigit digitS
 by_cases h1:48<=c/\c<=57
 .rw [if_pos (by simp; omega),if_pos h1,u8_small (by omega) (by omega)]
 .rw [if_neg (by simp; omega),if_neg h1]
  by_cases h2:97<=c/\c<=102
  .rw [if_pos (by simp; omega),if_pos h2,u8_small (by omega) (by omega),if_pos (i64ok_small (by omega) (by omega))]
   congr 1; omega
  .rw [if_neg (by simp; omega),if_neg h2]
   by_cases h3:65<=c/\c<=70
   .rw [if_pos (by simp; omega),if_pos h3,u8_small (by omega) (by omega),if_pos (i64ok_small (by omega) (by omega))]
    congr 1; omega
   .rw [if_neg (by simp; omega),if_neg h3]
def sp_digit:List AV->Option (AV×Option Prop)
 | [.p (.int .u8 c)]=>some (.p (.int .i64 (digitS c)),none)
 | _=>none
theorem ok_digit:SpecOk Tryz.prog 144 sp_digit:=by
 intro zs r ok h _
 unfold sp_digit at h
 split at h
 .cases h; exact ⟨by kernel_rfl,fn_digit 0 _ _ fun _=>Fdigit_eq _⟩
 .cases h
end Go.Proofs.YtampckbjinodgaaGreatDoor
