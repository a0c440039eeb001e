/-
  Lifted functions, and facts about them.
-/
import Derived.Test.YtampckbjinodgaaGreatDoorRows
import Derived.Test.YtampckbjinodgaaGreatDoorAmC
import Derived.Test.YtampckbjinodgaaGreatDoorC05
import Derived.Test.YtampckbjinodgaaGreatDoorC01
import Derived.Test.YtampckbjinodgaaGreatDoorC02
namespace Go.Proofs.YtampckbjinodgaaGreatDoor
open Go Go.Am
set_option linter.unusedVariables false
def BQDecode_2 (fuel:Nat) (k1:List UInt8->Int->List UInt8->Option (List UInt8)) (s:List UInt8) (vi3:Int) (vb4:List UInt8):Option (List UInt8):=if i64ok (vi3+(1:Int)) then (k1 s (vi3+(1:Int)) vb4) else none
def BQDecode_1 (fuel:Nat) :Nat->List UInt8->Int->List UInt8->Option (List UInt8)
 | 0,_,_,_=>none
 | f1+1,s,vi1,vb2=>if (decide (vi1 < (s.length:Int)))=true then (if (i64ok (vi1+(1:Int)))/\(0<=(vi1+(1:Int))/\(vi1+(1:Int))<=(s.length:Int)) then (if 0<=vi1/\vi1 < (s.length:Int) then (if (((s.getD (vi1).toNat 0).toNat:Int) != (61:Int))=true then (if (0<=vi1/\vi1 < (s.length:Int))/\((vb2.length+[UInt8.ofNat (((s.getD (vi1).toNat 0).toNat:Int)).toNat].length) * 1<=140737488355328) then (BQDecode_2 fuel (BQDecode_1 fuel f1) s vi1 (vb2++[UInt8.ofNat (((s.getD (vi1).toNat 0).toNat:Int)).toNat])) else none) else (if ((decide (((s.drop (vi1+(1:Int)).toNat).length:Int) > (1:Int)))=true->0<=(0:Int)/\(0:Int) < ((s.drop (vi1+(1:Int)).toNat).length:Int))/\(((decide (((s.drop (vi1+(1:Int)).toNat).length:Int) > (1:Int)))&&(decide ((digitS (((s.drop (vi1+(1:Int)).toNat).getD ((0:Int)).toNat 0).toNat:Int))>=(0:Int))))=true->0<=(1:Int)/\(1:Int) < ((s.drop (vi1+(1:Int)).toNat).length:Int)) then (if (((decide (((s.drop (vi1+(1:Int)).toNat).length:Int) > (1:Int)))&&(decide ((digitS (((s.drop (vi1+(1:Int)).toNat).getD ((0:Int)).toNat 0).toNat:Int))>=(0:Int))))&&(decide ((digitS (((s.drop (vi1+(1:Int)).toNat).getD ((1:Int)).toNat 0).toNat:Int))>=(0:Int))))=true then (if (0<=(0:Int)/\(0:Int) < ((s.drop (vi1+(1:Int)).toNat).length:Int))/\(0<=(4:Int))/\(0<=(1:Int)/\(1:Int) < ((s.drop (vi1+(1:Int)).toNat).length:Int))/\((vb2.length+[UInt8.ofNat (IntKind.u8.wrap (ibits .or .i64 (IntKind.i64.wrap ((digitS (((s.drop (vi1+(1:Int)).toNat).getD ((0:Int)).toNat 0).toNat:Int)) * 2 ^ (min ((4:Int)).toNat 64))) (digitS (((s.drop (vi1+(1:Int)).toNat).getD ((1:Int)).toNat 0).toNat:Int)))).toNat].length) * 1<=140737488355328) then (if i64ok (vi1+(2:Int)) then (BQDecode_2 fuel (BQDecode_1 fuel f1) s (vi1+(2:Int)) (vb2++[UInt8.ofNat (IntKind.u8.wrap (ibits .or .i64 (IntKind.i64.wrap ((digitS (((s.drop (vi1+(1:Int)).toNat).getD ((0:Int)).toNat 0).toNat:Int)) * 2 ^ (min ((4:Int)).toNat 64))) (digitS (((s.drop (vi1+(1:Int)).toNat).getD ((1:Int)).toNat 0).toNat:Int)))).toNat])) else none) else none) else (if (decide (((s.drop (vi1+(1:Int)).toNat).length:Int) > (0:Int)))=true->0<=(0:Int)/\(0:Int) < ((s.drop (vi1+(1:Int)).toNat).length:Int) then (if ((decide (((s.drop (vi1+(1:Int)).toNat).length:Int) > (0:Int)))&&((((s.drop (vi1+(1:Int)).toNat).getD ((0:Int)).toNat 0).toNat:Int)==(10:Int)))=true then (if i64ok (vi1+(1:Int)) then (BQDecode_2 fuel (BQDecode_1 fuel f1) s (vi1+(1:Int)) vb2) else none) else (if ((decide (((s.drop (vi1+(1:Int)).toNat).length:Int) > (1:Int)))=true->0<=(0:Int)/\(0:Int) < ((s.drop (vi1+(1:Int)).toNat).length:Int))/\(((decide (((s.drop (vi1+(1:Int)).toNat).length:Int) > (1:Int)))&&((((s.drop (vi1+(1:Int)).toNat).getD ((0:Int)).toNat 0).toNat:Int)==(13:Int)))=true->0<=(1:Int)/\(1:Int) < ((s.drop (vi1+(1:Int)).toNat).length:Int)) then (if (((decide (((s.drop (vi1+(1:Int)).toNat).length:Int) > (1:Int)))&&((((s.drop (vi1+(1:Int)).toNat).getD ((0:Int)).toNat 0).toNat:Int)==(13:Int)))&&((((s.drop (vi1+(1:Int)).toNat).getD ((1:Int)).toNat 0).toNat:Int)==(10:Int)))=true then (if i64ok (vi1+(2:Int)) then (BQDecode_2 fuel (BQDecode_1 fuel f1) s (vi1+(2:Int)) vb2) else none) else (if (vb2.length+[UInt8.ofNat ((61:Int)).toNat].length) * 1<=140737488355328 then (BQDecode_2 fuel (BQDecode_1 fuel f1) s vi1 (vb2++[UInt8.ofNat ((61:Int)).toNat])) else none)) else none)) else none)) else none)) else none) else none) else (some vb2)
def FQDecode (fuel:Nat) (s:List UInt8):Option (List UInt8):=BQDecode_1 fuel fuel s (0:Int) []
noncomputable def cQDecode:Code:=bodyOf Tryz.f115
def envQDecode:Env:=mkEnv [(144,sp_digit)]
theorem envQDecode_ok:EnvOk Tryz.prog envQDecode:=EnvOk_mk ⟨ok_digit.any,trivial⟩
def envrQDecode:EnvR:=mkEnvR []
theorem envrQDecode_ok:EnvROk Tryz.prog envrQDecode:=EnvROk_mk trivial
theorem TQDecode (fuel:Nat) (s res:List UInt8) (h:FQDecode fuel s=some res) (C:Ctx) (hC:CtxOk C 89 []):
 T Tryz.prog C (at_ cQDecode []) (mkS [(0,.p (.str s))] []) (Qend Tryz.prog C Tryz.f115.results.toList (.p (.str res))):=by
 have henv:=envQDecode_ok
 have henvR:=envrQDecode_ok
 have hmx:Tryz.prog.follows .mixedOrders=true:=Checked.mixed Tryz.checked
 unfold FQDecode at h
 refine T_seqp (p:=[]) (by kernel_rfl) ?_
 refine T_reg henv hC [] [(0,.p (.str s))] [] [] (by kernel_rfl) (by kernel_rfl) trivial (fun s1 hs1=>?_)
 refine (T.weaken ?_ hs1:T Tryz.prog C (at_ cQDecode [1]) _ _)
 refine T_seqp (p:=[1]) (by kernel_rfl) ?_
 refine T_reg henv hC [(3,none)] [(0,.p (.str s)),(3,.arr 3)] [(3,.barr 5 false [])] [] (by kernel_rfl) (by kernel_rfl) trivial (fun s1 hs1=>?_)
 refine (T.weaken ?_ hs1:T Tryz.prog C (at_ cQDecode [1,1]) _ _)
 refine T_seqp (p:=[1,1]) (by kernel_rfl) ?_
 refine T_seqp (p:=[1,1,0]) (by kernel_rfl) ?_
 refine T_reg henv hC [(3,some 3)] [(0,.p (.str s)),(3,.arr 3),(4,.p (.int .i64 (0:Int)))] [(3,.barr 5 false [])] [] (by kernel_rfl) (by kernel_rfl) trivial (fun s1 hs1=>?_)
 refine (T.weaken ?_ hs1:T Tryz.prog C (at_ cQDecode [1,1,0,1]) _ _)
 refine T_blockp (p:=[1,1,0,1]) 0 (by kernel_rfl) ?_
 refine T.weaken ?_ (Sub_view (l:=[(0,.p (.str s)),(3,.arr 3),(4,.p (.int .i64 (0:Int)))]) (o:=[(3,.barr 5 false [])]) hC [(3,some 3)] (by kernel_rfl) (by kernel_rfl) (by kernel_rfl))
 refine T_loopp (p:=[1,1,0,1,0]) (by kernel_rfl) (fun f1 s2=>∃ (s:List UInt8) (vi1:Int) (vb2:List UInt8),s2=mkS [(0,.p (.str s)),(3,.arr 3),(4,.p (.int .i64 vi1))] [(3,.barr 5 false vb2)]/\BQDecode_1 fuel f1 s vi1 vb2=some res) ?_ fuel ⟨s,(0:Int),[],rfl,h⟩
 rintro f1 s2 ⟨s,vi1,vb2,rfl,h⟩
 cases f1 with
 | zero=>cases h
 | succ f1=>
  rw [BQDecode_1] at h
  refine T_seqp (p:=[1,1,0,1,0,0]) (by kernel_rfl) ?_
  refine T_seqp (p:=[1,1,0,1,0,0,0]) (by kernel_rfl) ?_
  refine T_reg henv hC [(3,some 3)] [(0,.p (.str s)),(3,.arr 3),(4,.p (.int .i64 vi1)),(9,.p (.bool (decide (vi1 < (s.length:Int)))))] [(3,.barr 5 false vb2)] [] (by kernel_rfl) (by kernel_rfl) trivial (fun s1 hs1=>?_)
  refine (T.weaken ?_ hs1:T Tryz.prog C (at_ cQDecode [1,1,0,1,0,0,0,1]) _ _)
  refine T_condp (p:=[1,1,0,1,0,0,0,1]) (by kernel_rfl) (decide (vi1 < (s.length:Int))) (by kernel_rfl) (fun hb=>?_) (fun hb=>?_)
  .have h:=ite_t h hb
   refine T_skipp (p:=[1,1,0,1,0,0,0,1,0]) (by kernel_rfl) ?_
   refine (T.weaken ?_ (Sub.refl _):T Tryz.prog C (at_ cQDecode [1,1,0,1,0,0,1]) _ _)
   refine T_join (p:=[1,1,0,1,0,0,1]) (by kernel_rfl) (fun s2=>∃ (s:List UInt8) (vi3:Int) (vb4:List UInt8),BQDecode_2 fuel (BQDecode_1 fuel f1) s vi3 vb4=some res/\Sub C s2 (mkS [(0,.p (.str s)),(3,.arr 3),(4,.p (.int .i64 vi3))] [(3,.barr 5 false vb4)])) ?_ ?_
   .refine T_blockp (p:=[1,1,0,1,0,0,1,0]) 1 (by kernel_rfl) ?_
    refine T_seqp (p:=[1,1,0,1,0,0,1,0,0]) (by kernel_rfl) ?_
    obtain ⟨hob,h⟩:=ite_get h
    refine T_reg henv hC [(3,some 3)] [(0,.p (.str s)),(3,.arr 3),(4,.p (.int .i64 vi1)),(5,.p (.str (s.drop (vi1+(1:Int)).toNat)))] [(3,.barr 5 false vb2)] [i64ok (vi1+(1:Int)),0<=(vi1+(1:Int))/\(vi1+(1:Int))<=(s.length:Int)] (by kernel_rfl) (by kernel_rfl) ⟨hob.1,hob.2,trivial⟩ (fun s1 hs1=>?_)
    refine (T.weaken ?_ hs1:T Tryz.prog C (at_ cQDecode [1,1,0,1,0,0,1,0,0,1]) _ _)
    refine T_blockp (p:=[1,1,0,1,0,0,1,0,0,1]) 2 (by kernel_rfl) ?_
    refine T_seqp (p:=[1,1,0,1,0,0,1,0,0,1,0]) (by kernel_rfl) ?_
    obtain ⟨hob,h⟩:=ite_get h
    refine T_reg henv hC [(3,some 3)] [(0,.p (.str s)),(3,.arr 3),(4,.p (.int .i64 vi1)),(5,.p (.str (s.drop (vi1+(1:Int)).toNat))),(19,.p (.bool (((s.getD (vi1).toNat 0).toNat:Int) != (61:Int))))] [(3,.barr 5 false vb2)] [0<=vi1/\vi1 < (s.length:Int)] (by kernel_rfl) (by kernel_rfl) ⟨hob,trivial⟩ (fun s1 hs1=>?_)
    refine (T.weaken ?_ hs1:T Tryz.prog C (at_ cQDecode [1,1,0,1,0,0,1,0,0,1,0,1]) _ _)
    refine T_condp (p:=[1,1,0,1,0,0,1,0,0,1,0,1]) (by kernel_rfl) (((s.getD (vi1).toNat 0).toNat:Int) != (61:Int)) (by kernel_rfl) (fun hb=>?_) (fun hb=>?_)
    .have h:=ite_t h hb
     obtain ⟨hob,h⟩:=ite_get h
     refine T_reg henv hC [(3,some 29)] [(0,.p (.str s)),(3,.arr 3),(4,.p (.int .i64 vi1))] [(3,.barr 5 false (vb2++[UInt8.ofNat (((s.getD (vi1).toNat 0).toNat:Int)).toNat]))] [0<=vi1/\vi1 < (s.length:Int),(vb2.length+[UInt8.ofNat (((s.getD (vi1).toNat 0).toNat:Int)).toNat].length) * 1<=140737488355328] (by kernel_rfl) (by kernel_rfl) ⟨hob.1,hob.2,trivial⟩ (fun s1 hs1=>?_)
     exact ⟨s,vi1,vb2++[UInt8.ofNat (((s.getD (vi1).toNat 0).toNat:Int)).toNat],h,Sub.trans hs1 (Sub_view hC [(3,some 3)] (by kernel_rfl) (by kernel_rfl) (by kernel_rfl))⟩
    .have h:=ite_f h hb
     refine T_seqp (p:=[1,1,0,1,0,0,1,0,0,1,0,1,1]) (by kernel_rfl) ?_
     obtain ⟨hob,h⟩:=ite_get h
     refine T_reg henv hC [(3,some 3)] [(0,.p (.str s)),(3,.arr 3),(4,.p (.int .i64 vi1)),(5,.p (.str (s.drop (vi1+(1:Int)).toNat))),(30,.p (.bool (((decide (((s.drop (vi1+(1:Int)).toNat).length:Int) > (1:Int)))&&(decide ((digitS (((s.drop (vi1+(1:Int)).toNat).getD ((0:Int)).toNat 0).toNat:Int))>=(0:Int))))&&(decide ((digitS (((s.drop (vi1+(1:Int)).toNat).getD ((1:Int)).toNat 0).toNat:Int))>=(0:Int))))))] [(3,.barr 5 false vb2)] [(decide (((s.drop (vi1+(1:Int)).toNat).length:Int) > (1:Int)))=true->(decide (((s.drop (vi1+(1:Int)).toNat).length:Int) > (1:Int)))=true,(decide (((s.drop (vi1+(1:Int)).toNat).length:Int) > (1:Int)))=true->0<=(0:Int)/\(0:Int) < ((s.drop (vi1+(1:Int)).toNat).length:Int),(decide (((s.drop (vi1+(1:Int)).toNat).length:Int) > (1:Int)))=true->(decide (((s.drop (vi1+(1:Int)).toNat).length:Int) > (1:Int)))=true,(decide (((s.drop (vi1+(1:Int)).toNat).length:Int) > (1:Int)))=true->(decide (((s.drop (vi1+(1:Int)).toNat).length:Int) > (1:Int)))=true,(decide (((s.drop (vi1+(1:Int)).toNat).length:Int) > (1:Int)))=true->(decide (((s.drop (vi1+(1:Int)).toNat).length:Int) > (1:Int)))=true,((decide (((s.drop (vi1+(1:Int)).toNat).length:Int) > (1:Int)))&&(decide ((digitS (((s.drop (vi1+(1:Int)).toNat).getD ((0:Int)).toNat 0).toNat:Int))>=(0:Int))))=true->((decide (((s.drop (vi1+(1:Int)).toNat).length:Int) > (1:Int)))&&(decide ((digitS (((s.drop (vi1+(1:Int)).toNat).getD ((0:Int)).toNat 0).toNat:Int))>=(0:Int))))=true,((decide (((s.drop (vi1+(1:Int)).toNat).length:Int) > (1:Int)))&&(decide ((digitS (((s.drop (vi1+(1:Int)).toNat).getD ((0:Int)).toNat 0).toNat:Int))>=(0:Int))))=true->0<=(1:Int)/\(1:Int) < ((s.drop (vi1+(1:Int)).toNat).length:Int),((decide (((s.drop (vi1+(1:Int)).toNat).length:Int) > (1:Int)))&&(decide ((digitS (((s.drop (vi1+(1:Int)).toNat).getD ((0:Int)).toNat 0).toNat:Int))>=(0:Int))))=true->((decide (((s.drop (vi1+(1:Int)).toNat).length:Int) > (1:Int)))&&(decide ((digitS (((s.drop (vi1+(1:Int)).toNat).getD ((0:Int)).toNat 0).toNat:Int))>=(0:Int))))=true,((decide (((s.drop (vi1+(1:Int)).toNat).length:Int) > (1:Int)))&&(decide ((digitS (((s.drop (vi1+(1:Int)).toNat).getD ((0:Int)).toNat 0).toNat:Int))>=(0:Int))))=true->((decide (((s.drop (vi1+(1:Int)).toNat).length:Int) > (1:Int)))&&(decide ((digitS (((s.drop (vi1+(1:Int)).toNat).getD ((0:Int)).toNat 0).toNat:Int))>=(0:Int))))=true,((decide (((s.drop (vi1+(1:Int)).toNat).length:Int) > (1:Int)))&&(decide ((digitS (((s.drop (vi1+(1:Int)).toNat).getD ((0:Int)).toNat 0).toNat:Int))>=(0:Int))))=true->((decide (((s.drop (vi1+(1:Int)).toNat).length:Int) > (1:Int)))&&(decide ((digitS (((s.drop (vi1+(1:Int)).toNat).getD ((0:Int)).toNat 0).toNat:Int))>=(0:Int))))=true] (by kernel_rfl) (by kernel_rfl) ⟨(fun q0=>q0),hob.1,(fun q0=>q0),(fun q0=>q0),(fun q0=>q0),(fun q0=>q0),hob.2,(fun q0=>q0),(fun q0=>q0),(fun q0=>q0),trivial⟩ (fun s1 hs1=>?_)
     refine (T.weaken ?_ hs1:T Tryz.prog C (at_ cQDecode [1,1,0,1,0,0,1,0,0,1,0,1,1,1]) _ _)
     refine T_condp (p:=[1,1,0,1,0,0,1,0,0,1,0,1,1,1]) (by kernel_rfl) (((decide (((s.drop (vi1+(1:Int)).toNat).length:Int) > (1:Int)))&&(decide ((digitS (((s.drop (vi1+(1:Int)).toNat).getD ((0:Int)).toNat 0).toNat:Int))>=(0:Int))))&&(decide ((digitS (((s.drop (vi1+(1:Int)).toNat).getD ((1:Int)).toNat 0).toNat:Int))>=(0:Int)))) (by kernel_rfl) (fun hb=>?_) (fun hb=>?_)
     .have h:=ite_t h hb
      refine T_seqp (p:=[1,1,0,1,0,0,1,0,0,1,0,1,1,1,0]) (by kernel_rfl) ?_
      obtain ⟨hob,h⟩:=ite_get h
      refine T_regdW henv henvR hmx hC [] [(3,some 57)] [(0,.p (.str s)),(3,.arr 3),(4,.p (.int .i64 vi1))] [(3,.barr 5 false (vb2++[UInt8.ofNat (IntKind.u8.wrap (ibits .or .i64 (IntKind.i64.wrap ((digitS (((s.drop (vi1+(1:Int)).toNat).getD ((0:Int)).toNat 0).toNat:Int)) * 2 ^ (min ((4:Int)).toNat 64))) (digitS (((s.drop (vi1+(1:Int)).toNat).getD ((1:Int)).toNat 0).toNat:Int)))).toNat]))] [0<=(0:Int)/\(0:Int) < ((s.drop (vi1+(1:Int)).toNat).length:Int),0<=(4:Int),0<=(1:Int)/\(1:Int) < ((s.drop (vi1+(1:Int)).toNat).length:Int),(vb2.length+[UInt8.ofNat (IntKind.u8.wrap (ibits .or .i64 (IntKind.i64.wrap ((digitS (((s.drop (vi1+(1:Int)).toNat).getD ((0:Int)).toNat 0).toNat:Int)) * 2 ^ (min ((4:Int)).toNat 64))) (digitS (((s.drop (vi1+(1:Int)).toNat).getD ((1:Int)).toNat 0).toNat:Int)))).toNat].length) * 1<=140737488355328] (by kernel_rfl) (by kernel_rfl) (by kernel_rfl) ⟨hob.1,hob.2.1,hob.2.2.1,hob.2.2.2,trivial⟩ (fun s1 hs1=>?_)
      refine (T.weaken ?_ hs1:T Tryz.prog C (at_ cQDecode [1,1,0,1,0,0,1,0,0,1,0,1,1,1,0,1]) _ _)
      obtain ⟨hob,h⟩:=ite_get h
      refine T_reg henv hC [(3,some 3)] [(0,.p (.str s)),(3,.arr 3),(4,.p (.int .i64 (vi1+(2:Int))))] [(3,.barr 5 false (vb2++[UInt8.ofNat (IntKind.u8.wrap (ibits .or .i64 (IntKind.i64.wrap ((digitS (((s.drop (vi1+(1:Int)).toNat).getD ((0:Int)).toNat 0).toNat:Int)) * 2 ^ (min ((4:Int)).toNat 64))) (digitS (((s.drop (vi1+(1:Int)).toNat).getD ((1:Int)).toNat 0).toNat:Int)))).toNat]))] [i64ok (vi1+(2:Int))] (by kernel_rfl) (by kernel_rfl) ⟨hob,trivial⟩ (fun s1 hs1=>?_)
      exact ⟨s,vi1+(2:Int),vb2++[UInt8.ofNat (IntKind.u8.wrap (ibits .or .i64 (IntKind.i64.wrap ((digitS (((s.drop (vi1+(1:Int)).toNat).getD ((0:Int)).toNat 0).toNat:Int)) * 2 ^ (min ((4:Int)).toNat 64))) (digitS (((s.drop (vi1+(1:Int)).toNat).getD ((1:Int)).toNat 0).toNat:Int)))).toNat],h,Sub.trans hs1 (Sub_view hC [(3,some 3)] (by kernel_rfl) (by kernel_rfl) (by kernel_rfl))⟩
     .have h:=ite_f h hb
      refine T_seqp (p:=[1,1,0,1,0,0,1,0,0,1,0,1,1,1,1]) (by kernel_rfl) ?_
      obtain ⟨hob,h⟩:=ite_get h
      refine T_reg henv hC [(3,some 3)] [(0,.p (.str s)),(3,.arr 3),(4,.p (.int .i64 vi1)),(5,.p (.str (s.drop (vi1+(1:Int)).toNat))),(60,.p (.bool ((decide (((s.drop (vi1+(1:Int)).toNat).length:Int) > (0:Int)))&&((((s.drop (vi1+(1:Int)).toNat).getD ((0:Int)).toNat 0).toNat:Int)==(10:Int)))))] [(3,.barr 5 false vb2)] [(decide (((s.drop (vi1+(1:Int)).toNat).length:Int) > (0:Int)))=true->(decide (((s.drop (vi1+(1:Int)).toNat).length:Int) > (0:Int)))=true,(decide (((s.drop (vi1+(1:Int)).toNat).length:Int) > (0:Int)))=true->0<=(0:Int)/\(0:Int) < ((s.drop (vi1+(1:Int)).toNat).length:Int),(decide (((s.drop (vi1+(1:Int)).toNat).length:Int) > (0:Int)))=true->(decide (((s.drop (vi1+(1:Int)).toNat).length:Int) > (0:Int)))=true,(decide (((s.drop (vi1+(1:Int)).toNat).length:Int) > (0:Int)))=true->(decide (((s.drop (vi1+(1:Int)).toNat).length:Int) > (0:Int)))=true] (by kernel_rfl) (by kernel_rfl) ⟨(fun q0=>q0),hob,(fun q0=>q0),(fun q0=>q0),trivial⟩ (fun s1 hs1=>?_)
      refine (T.weaken ?_ hs1:T Tryz.prog C (at_ cQDecode [1,1,0,1,0,0,1,0,0,1,0,1,1,1,1,1]) _ _)
      refine T_condp (p:=[1,1,0,1,0,0,1,0,0,1,0,1,1,1,1,1]) (by kernel_rfl) ((decide (((s.drop (vi1+(1:Int)).toNat).length:Int) > (0:Int)))&&((((s.drop (vi1+(1:Int)).toNat).getD ((0:Int)).toNat 0).toNat:Int)==(10:Int))) (by kernel_rfl) (fun hb=>?_) (fun hb=>?_)
      .have h:=ite_t h hb
       obtain ⟨hob,h⟩:=ite_get h
       refine T_reg henv hC [(3,some 3)] [(0,.p (.str s)),(3,.arr 3),(4,.p (.int .i64 (vi1+(1:Int))))] [(3,.barr 5 false vb2)] [i64ok (vi1+(1:Int))] (by kernel_rfl) (by kernel_rfl) ⟨hob,trivial⟩ (fun s1 hs1=>?_)
       exact ⟨s,vi1+(1:Int),vb2,h,Sub.trans hs1 (Sub_view hC [(3,some 3)] (by kernel_rfl) (by kernel_rfl) (by kernel_rfl))⟩
      .have h:=ite_f h hb
       refine T_seqp (p:=[1,1,0,1,0,0,1,0,0,1,0,1,1,1,1,1,1]) (by kernel_rfl) ?_
       obtain ⟨hob,h⟩:=ite_get h
       refine T_reg henv hC [(3,some 3)] [(0,.p (.str s)),(3,.arr 3),(4,.p (.int .i64 vi1)),(71,.p (.bool (((decide (((s.drop (vi1+(1:Int)).toNat).length:Int) > (1:Int)))&&((((s.drop (vi1+(1:Int)).toNat).getD ((0:Int)).toNat 0).toNat:Int)==(13:Int)))&&((((s.drop (vi1+(1:Int)).toNat).getD ((1:Int)).toNat 0).toNat:Int)==(10:Int)))))] [(3,.barr 5 false vb2)] [(decide (((s.drop (vi1+(1:Int)).toNat).length:Int) > (1:Int)))=true->(decide (((s.drop (vi1+(1:Int)).toNat).length:Int) > (1:Int)))=true,(decide (((s.drop (vi1+(1:Int)).toNat).length:Int) > (1:Int)))=true->0<=(0:Int)/\(0:Int) < ((s.drop (vi1+(1:Int)).toNat).length:Int),(decide (((s.drop (vi1+(1:Int)).toNat).length:Int) > (1:Int)))=true->(decide (((s.drop (vi1+(1:Int)).toNat).length:Int) > (1:Int)))=true,(decide (((s.drop (vi1+(1:Int)).toNat).length:Int) > (1:Int)))=true->(decide (((s.drop (vi1+(1:Int)).toNat).length:Int) > (1:Int)))=true,((decide (((s.drop (vi1+(1:Int)).toNat).length:Int) > (1:Int)))&&((((s.drop (vi1+(1:Int)).toNat).getD ((0:Int)).toNat 0).toNat:Int)==(13:Int)))=true->((decide (((s.drop (vi1+(1:Int)).toNat).length:Int) > (1:Int)))&&((((s.drop (vi1+(1:Int)).toNat).getD ((0:Int)).toNat 0).toNat:Int)==(13:Int)))=true,((decide (((s.drop (vi1+(1:Int)).toNat).length:Int) > (1:Int)))&&((((s.drop (vi1+(1:Int)).toNat).getD ((0:Int)).toNat 0).toNat:Int)==(13:Int)))=true->0<=(1:Int)/\(1:Int) < ((s.drop (vi1+(1:Int)).toNat).length:Int),((decide (((s.drop (vi1+(1:Int)).toNat).length:Int) > (1:Int)))&&((((s.drop (vi1+(1:Int)).toNat).getD ((0:Int)).toNat 0).toNat:Int)==(13:Int)))=true->((decide (((s.drop (vi1+(1:Int)).toNat).length:Int) > (1:Int)))&&((((s.drop (vi1+(1:Int)).toNat).getD ((0:Int)).toNat 0).toNat:Int)==(13:Int)))=true,((decide (((s.drop (vi1+(1:Int)).toNat).length:Int) > (1:Int)))&&((((s.drop (vi1+(1:Int)).toNat).getD ((0:Int)).toNat 0).toNat:Int)==(13:Int)))=true->((decide (((s.drop (vi1+(1:Int)).toNat).length:Int) > (1:Int)))&&((((s.drop (vi1+(1:Int)).toNat).getD ((0:Int)).toNat 0).toNat:Int)==(13:Int)))=true] (by kernel_rfl) (by kernel_rfl) ⟨(fun q0=>q0),hob.1,(fun q0=>q0),(fun q0=>q0),(fun q0=>q0),hob.2,(fun q0=>q0),(fun q0=>q0),trivial⟩ (fun s1 hs1=>?_)
       refine (T.weaken ?_ hs1:T Tryz.prog C (at_ cQDecode [1,1,0,1,0,0,1,0,0,1,0,1,1,1,1,1,1,1]) _ _)
       refine T_condp (p:=[1,1,0,1,0,0,1,0,0,1,0,1,1,1,1,1,1,1]) (by kernel_rfl) (((decide (((s.drop (vi1+(1:Int)).toNat).length:Int) > (1:Int)))&&((((s.drop (vi1+(1:Int)).toNat).getD ((0:Int)).toNat 0).toNat:Int)==(13:Int)))&&((((s.drop (vi1+(1:Int)).toNat).getD ((1:Int)).toNat 0).toNat:Int)==(10:Int))) (by kernel_rfl) (fun hb=>?_) (fun hb=>?_)
       .have h:=ite_t h hb
        obtain ⟨hob,h⟩:=ite_get h
        refine T_reg henv hC [(3,some 3)] [(0,.p (.str s)),(3,.arr 3),(4,.p (.int .i64 (vi1+(2:Int))))] [(3,.barr 5 false vb2)] [i64ok (vi1+(2:Int))] (by kernel_rfl) (by kernel_rfl) ⟨hob,trivial⟩ (fun s1 hs1=>?_)
        exact ⟨s,vi1+(2:Int),vb2,h,Sub.trans hs1 (Sub_view hC [(3,some 3)] (by kernel_rfl) (by kernel_rfl) (by kernel_rfl))⟩
       .have h:=ite_f h hb
        obtain ⟨hob,h⟩:=ite_get h
        refine T_reg henv hC [(3,some 18)] [(0,.p (.str s)),(3,.arr 3),(4,.p (.int .i64 vi1))] [(3,.barr 5 false (vb2++[UInt8.ofNat ((61:Int)).toNat]))] [(vb2.length+[UInt8.ofNat ((61:Int)).toNat].length) * 1<=140737488355328] (by kernel_rfl) (by kernel_rfl) ⟨hob,trivial⟩ (fun s1 hs1=>?_)
        exact ⟨s,vi1,vb2++[UInt8.ofNat ((61:Int)).toNat],h,Sub.trans hs1 (Sub_view hC [(3,some 3)] (by kernel_rfl) (by kernel_rfl) (by kernel_rfl))⟩
   .rintro s2 ⟨s,vi3,vb4,h,hs2⟩
    unfold BQDecode_2 at h
    refine (T.weaken ?_ hs2:T Tryz.prog C (at_ cQDecode [1,1,0,1,0,0,1,1]) _ _)
    obtain ⟨hob,h⟩:=ite_get h
    refine T_reg henv hC [(3,some 3)] [(0,.p (.str s)),(3,.arr 3),(4,.p (.int .i64 (vi3+(1:Int))))] [(3,.barr 5 false vb4)] [i64ok (vi3+(1:Int))] (by kernel_rfl) (by kernel_rfl) ⟨hob,trivial⟩ (fun s1 hs1=>?_)
    exact ⟨f1,_,Nat.lt_succ_self f1,⟨s,vi3+(1:Int),vb4,rfl,h⟩,Sub.trans hs1 (Sub_view hC [(3,some 3)] (by kernel_rfl) (by kernel_rfl) (by kernel_rfl))⟩
  .have h:=ite_f h hb
   refine T_exitp (p:=[1,1,0,1,0,0,0,1,1]) 0 (by kernel_rfl) ?_
   refine then_exit ?_
   refine then_exit ?_
   refine inblock_hit ?_
   refine (T.weaken ?_ (Sub.refl _):T Tryz.prog C (at_ cQDecode [1,1,1]) _ _)
   refine T_seqp (p:=[1,1,1]) (by kernel_rfl) ?_
   refine T_reg henv hC [] [(2,.p (.str vb2))] [] [] (by kernel_rfl) (by kernel_rfl) trivial (fun s1 hs1=>?_)
   refine (T.weaken ?_ hs1:T Tryz.prog C (at_ cQDecode [1,1,1,1]) _ _)
   refine T_retp (p:=[1,1,1,1]) (by kernel_rfl) ?_
   have h:=Option.some.inj h; subst h
   exact ⟨mkS [(2,.p (.str vb2))] [],(Sub.refl _),by kernel_rfl⟩
theorem fn_QDecode (fuel:Nat) (s res:List UInt8) (h:(∃ M vs,ARels γ0 M [.p (.str s)] vs)->FQDecode fuel s=some res):FnP Tryz.prog 115 [.p (.str s)] (.p (.str res)):=
 FnP_lift (fn:=Tryz.f115) (by kernel_rfl) (by kernel_rfl) fun M vs hvs C hC0=>have hC:CtxOk C 89 []:=⟨hC0.nt.trans (by kernel_rfl),hC0.fx⟩; T.weaken (TQDecode fuel s res (h ⟨M,vs,hvs⟩) C hC) (sinit_sub hC (by kernel_rfl) (by kernel_rfl))
def hexB (x y:UInt8):UInt8:=UInt8.ofNat (16 * digitS x.toNat+digitS y.toNat).toNat
def isHex (x:UInt8):Prop:=0<=digitS x.toNat
instance (x:UInt8):Decidable (isHex x):=inferInstanceAs (Decidable (0<=digitS x.toNat))
def qdec:List UInt8->List UInt8
 | []=>[]
 | c::r=>if c≠61 then c::qdec r else
  match r with
  | x::y::t=>if isHex x/\isHex y then hexB x y::qdec t else if x=10 then qdec (y::t) else if x=13/\y=10 then qdec t else 61::qdec (x::y::t)
  | [x]=>if x=10 then [] else 61::qdec [x]
  | []=>[61]
termination_by l=>l.length
decreasing_by all_goals (simp; try omega)
theorem qdec_nil:qdec []=[]:=by rw [qdec.eq_def]
theorem qdec_ne {c:UInt8} (h:c≠61) (r:List UInt8):qdec (c::r)=c::qdec r:=by rw [qdec.eq_def]; simp [h]
theorem qdec_1:qdec [61]=[61]:=by rw [qdec.eq_def]; simp
theorem qdec_2 (x:UInt8):qdec [61,x]=if x=10 then [] else 61::qdec [x]:=by rw [qdec.eq_def]; simp
theorem qdec_3 (x y:UInt8) (t:List UInt8):qdec (61::x::y::t)=if isHex x/\isHex y then hexB x y::qdec t else if x=10 then qdec (y::t) else if x=13/\y=10 then qdec t else 61::qdec (x::y::t):=by
 rw [qdec.eq_def]; simp
theorem digitS_lt (c:Int):digitS c < 16/\-1<=digitS c:=by unfold digitS; split <;> (try split) <;> (try split) <;> omega
theorem or_digits {a b:Int} (ha:0<=a) (ha2:a < 16) (hb:0<=b) (hb2:b < 16):IntKind.u8.wrap (ibits .or .i64 (IntKind.i64.wrap (a * 2 ^ (min ((4:Int)).toNat 64))) b)=16 * a+b:=by
 obtain ⟨x,rfl⟩:=Int.eq_ofNat_of_zero_le ha
 obtain ⟨y,rfl⟩:=Int.eq_ofNat_of_zero_le hb
 have hx:x < 16:=by omega
 have hy:y < 16:=by omega
 have:∀ x:Fin 16,∀ y:Fin 16,IntKind.u8.wrap (ibits .or .i64 (IntKind.i64.wrap (((x.val:Nat):Int) * 2 ^ (min ((4:Int)).toNat 64))) ((y.val:Nat):Int))=16 * ((x.val:Nat):Int)+((y.val:Nat):Int):=by decide
 exact this ⟨x,hx⟩ ⟨y,hy⟩
theorem BQDecode_eq (fuel:Nat) (s:List UInt8) (hs:s.length<=1000000):∀ (f i:Nat) (b:List UInt8),s.length < f+i->i<=s.length->b.length<=i->
 BQDecode_1 fuel f s (i:Int) b=some (b++qdec (s.drop i)):=by
 intro f
 induction f with
 | zero=>intro i b h1 h2; omega
 | succ f ih=>
  intro i b h1 h2 h3
  cases hd:s.drop i with
  | nil=>
   have:s.length<=i:=by have:=congrArg List.length hd; simp at this; omega
   rw [BQDecode_1,if_neg (by simp; omega),qdec_nil]
   simp
  | cons c r=>
   obtain ⟨e1,e2,e3⟩:=drop_cons hd
   have t1:((i:Int)+1).toNat=i+1:=by omega
   have ok:∀ n:Int,0<=n->n<=10000000->i64ok n:=fun n h h'=>i64ok_small (by omega) (by omega)
   have next:∀ (k:Nat) (b':List UInt8),i+k+1<=s.length->b'.length<=i+k+1->BQDecode_2 fuel (BQDecode_1 fuel f) s ((i:Int)+k) b'=some (b'++qdec (s.drop (i+k+1))):=by
    intro k b' hk hb
    unfold BQDecode_2
    rw [if_pos (ok _ (by omega) (by omega))]
    have:=ih (i+k+1) b' (by omega) hk hb
    rw [<-this]; congr 1
   have d0:s.drop (i+0+1)=r:=e2
   rw [BQDecode_1,if_pos (by simp; omega),if_pos ⟨ok _ (by omega) (by omega),by omega,by omega⟩,if_pos (by omega)]
   simp only [Int.toNat_natCast,e1,t1,e2]
   have n0:=next 0
   simp only [Int.natCast_zero,Int.add_zero,d0] at n0
   by_cases hc:c=61
   .subst hc
    rw [if_neg (by decide)]
    match r,e3,d0,n0,hd with
    | [],e3,d0,n0,hd=>
     rw [if_pos (by simp),if_neg (by simp),if_pos (by simp),if_neg (by simp),if_pos (by simp),if_neg (by simp),if_pos (by simp; omega),n0 _ (by simp at e3; omega) (by simp; omega),qdec_1,qdec_nil]
     simp
    | [x],e3,d0,n0,hd=>
     simp only [List.length_cons,List.length_nil] at e3
     rw [if_pos (by simp),if_neg (by simp),if_pos (by simp)]
     by_cases hx:x=10
     .subst hx
      have n1:=next 1 b (by omega) (by omega)
      rw [if_pos (by simp),if_pos (ok _ (by omega) (by omega))]
      refine n1.trans ?_
      rw [qdec_2,List.drop_of_length_le (by omega),qdec_nil]; rfl
     .have hx':¬ ((x.toNat:Int)=10):=fun e=>hx (u8_eq (d:=10) |>.1 e)
      rw [if_neg (by simp; exact fun e=>hx (u8_eq (d:=10) |>.1 e)),if_pos (by simp),if_neg (by simp),if_pos (by simp; omega),n0 _ (by omega) (by simp; omega),qdec_2,if_neg hx]
      simp
    | x::y::t,e3,d0,n0,hd=>
     simp only [List.length_cons] at e3
     have hl:((t.length:Int)+1+1 > 1):=by omega
     have dx:=digitS_lt (x.toNat)
     have dy:=digitS_lt (y.toNat)
     have d2:s.drop (i+2+1)=t:=by
      have:(s.drop (i+1)).drop 2=t:=by rw [d0]; rfl
      rw [List.drop_drop] at this; exact this
     have d1:s.drop (i+1+1)=y::t:=by
      have:(s.drop (i+1)).drop 1=y::t:=by rw [d0]; rfl
      rw [List.drop_drop] at this; exact this
     rw [if_pos (by simp; omega),qdec_3]
     by_cases hh:isHex x/\isHex y
     .have h1:(0:Int)<=digitS x.toNat:=hh.1
      have h2':(0:Int)<=digitS y.toNat:=hh.2
      rw [if_pos (by simpa using ⟨⟨by omega,h1⟩,h2'⟩),if_pos hh]
      have e:[UInt8.ofNat (IntKind.u8.wrap (ibits .or .i64 (IntKind.i64.wrap ((digitS ((((x::y::t).getD ((0:Int)).toNat 0).toNat:Int))) * 2 ^ (min ((4:Int)).toNat 64))) (digitS ((((x::y::t).getD ((1:Int)).toNat 0).toNat:Int))))).toNat]=[hexB x y]:=by
       show [UInt8.ofNat (IntKind.u8.wrap (ibits .or .i64 (IntKind.i64.wrap ((digitS (x.toNat:Int)) * 2 ^ (min ((4:Int)).toNat 64))) (digitS (y.toNat:Int)))).toNat]=_
       rw [or_digits h1 dx.1 h2' dy.1]; rfl
      rw [e]
      have n2:=next 2 (b++[hexB x y]) (by omega) (by simp; omega)
      rw [if_pos ⟨by simp; omega,by omega,by simp; omega,by simp; omega⟩,if_pos (ok _ (by omega) (by omega))]
      refine n2.trans ?_
      rw [d2]; simp
     .rw [if_neg (by
       intro h; simp at h
       exact hh ⟨h.1.2,h.2⟩),if_neg hh,if_pos (by simp)]
      by_cases hx:x=10
      .subst hx
       rw [if_pos (by simp; omega),if_pos (ok _ (by omega) (by omega)),if_pos rfl]
       refine (next 1 b (by omega) (by omega)).trans ?_
       rw [d1]
      .have hx':¬ ((x.toNat:Int)=10):=fun e=>hx (u8_eq (d:=10) |>.1 e)
       rw [if_neg (by
        intro h; simp at h
        exact hx (u8_eq (d:=10) |>.1 h.2)),if_neg hx,if_pos (by simp; omega)]
       by_cases hxy:x=13/\y=10
       .obtain ⟨rfl,rfl⟩:=hxy
        rw [if_pos (by simp; omega),if_pos (ok _ (by omega) (by omega)),if_pos ⟨rfl,rfl⟩]
        refine (next 2 b (by omega) (by omega)).trans ?_
        rw [d2]
       .rw [if_neg (by
         intro h; simp at h
         exact hxy ⟨u8_eq (d:=13) |>.1 h.1.2,u8_eq (d:=10) |>.1 h.2⟩),if_neg hxy,if_pos (by simp; omega),n0 _ (by omega) (by simp; omega)]
        simp
   .have hc':(((c.toNat:Int) != 61)=true):=by simpa using fun e=>hc (u8_eq (d:=61) |>.1 e)
    rw [if_pos hc',if_pos ⟨by omega,by simp; omega⟩,n0 _ (by omega) (by simp; omega),qdec_ne hc]
    simp
theorem QDecode_eq (s:List UInt8) (hs:s.length<=1000000):FQDecode 1000001 s=some (qdec s):=by
 have:=BQDecode_eq 1000001 s hs 1000001 0 [] (by omega) (by omega) (by simp)
 simpa [FQDecode] using this
def sp_QDecode:List AV->Option (AV×Option Prop):=spStr qdec
theorem ok_QDecode:SpecOk Tryz.prog 115 sp_QDecode:=spStr_ok (by kernel_rfl) fun s hs=>fn_QDecode 1000001 s _ fun _=>QDecode_eq s hs
end Go.Proofs.YtampckbjinodgaaGreatDoor
namespace Go.Proofs.YtampckbjinodgaaGreatDoor
open Go Go.Am
set_option linter.unusedVariables false
end Go.Proofs.YtampckbjinodgaaGreatDoor
