/-
  Lifted functions, and facts about them.
-/
import Derived.Test.YtoanepondbagcaaGreatDoorRows
import Derived.Test.YtoanepondbagcaaGreatDoorAmC
import Derived.Test.YtoanepondbagcaaGreatDoorC04
import Derived.Test.YtoanepondbagcaaGreatDoorC01
import Derived.Test.YtoanepondbagcaaGreatDoorC03
namespace Go.Proofs.YtoanepondbagcaaGreatDoor
open Go Go.Am
set_option linter.unusedVariables false
def BQDecode_2 (fuel:Nat) (k1:List UInt8->Int->List UInt8->Option (List UInt8)) (s:List UInt8) (vi3:Int) (vb4:List UInt8):Option (List UInt8):=if i64ok (vi3+(1:Int)) then (k1 s (vi3+(1:Int)) vb4) else none
def BQDecode_1 (fuel:Nat) :Nat->List UInt8->Int->List UInt8->Option (List UInt8)
 | 0,_,_,_=>none
 | f1+1,s,vi1,vb2=>if (decide (vi1 < (s.length:Int)))=true then (if (i64ok (vi1+(1:Int)))/\(0<=(vi1+(1:Int))/\(vi1+(1:Int))<=(s.length:Int)) then (if 0<=vi1/\vi1 < (s.length:Int) then (if (((s.getD (vi1).toNat 0).toNat:Int) != (61:Int))=true then (if (0<=vi1/\vi1 < (s.length:Int))/\((vb2.length+[UInt8.ofNat (((s.getD (vi1).toNat 0).toNat:Int)).toNat].length) * 1<=140737488355328) then (BQDecode_2 fuel (BQDecode_1 fuel f1) s vi1 (vb2++[UInt8.ofNat (((s.getD (vi1).toNat 0).toNat:Int)).toNat])) else none) else (if ((decide (((s.drop (vi1+(1:Int)).toNat).length:Int) > (1:Int)))=true->0<=(0:Int)/\(0:Int) < ((s.drop (vi1+(1:Int)).toNat).length:Int))/\(((decide (((s.drop (vi1+(1:Int)).toNat).length:Int) > (1:Int)))&&(decide ((digitS (((s.drop (vi1+(1:Int)).toNat).getD ((0:Int)).toNat 0).toNat:Int))>=(0:Int))))=true->0<=(1:Int)/\(1:Int) < ((s.drop (vi1+(1:Int)).toNat).length:Int)) then (if (((decide (((s.drop (vi1+(1:Int)).toNat).length:Int) > (1:Int)))&&(decide ((digitS (((s.drop (vi1+(1:Int)).toNat).getD ((0:Int)).toNat 0).toNat:Int))>=(0:Int))))&&(decide ((digitS (((s.drop (vi1+(1:Int)).toNat).getD ((1:Int)).toNat 0).toNat:Int))>=(0:Int))))=true then (if (0<=(0:Int)/\(0:Int) < ((s.drop (vi1+(1:Int)).toNat).length:Int))/\(0<=(4:Int))/\(0<=(1:Int)/\(1:Int) < ((s.drop (vi1+(1:Int)).toNat).length:Int))/\((vb2.length+[UInt8.ofNat (IntKind.u8.wrap (ibits .or .i64 (IntKind.i64.wrap ((digitS (((s.drop (vi1+(1:Int)).toNat).getD ((0:Int)).toNat 0).toNat:Int)) * 2 ^ (min ((4:Int)).toNat 64))) (digitS (((s.drop (vi1+(1:Int)).toNat).getD ((1:Int)).toNat 0).toNat:Int)))).toNat].length) * 1<=140737488355328) then (if i64ok (vi1+(2:Int)) then (BQDecode_2 fuel (BQDecode_1 fuel f1) s (vi1+(2:Int)) (vb2++[UInt8.ofNat (IntKind.u8.wrap (ibits .or .i64 (IntKind.i64.wrap ((digitS (((s.drop (vi1+(1:Int)).toNat).getD ((0:Int)).toNat 0).toNat:Int)) * 2 ^ (min ((4:Int)).toNat 64))) (digitS (((s.drop (vi1+(1:Int)).toNat).getD ((1:Int)).toNat 0).toNat:Int)))).toNat])) else none) else none) else (if (decide (((s.drop (vi1+(1:Int)).toNat).length:Int) > (0:Int)))=true->0<=(0:Int)/\(0:Int) < ((s.drop (vi1+(1:Int)).toNat).length:Int) then (if ((decide (((s.drop (vi1+(1:Int)).toNat).length:Int) > (0:Int)))&&((((s.drop (vi1+(1:Int)).toNat).getD ((0:Int)).toNat 0).toNat:Int)==(10:Int)))=true then (if i64ok (vi1+(1:Int)) then (BQDecode_2 fuel (BQDecode_1 fuel f1) s (vi1+(1:Int)) vb2) else none) else (if ((decide (((s.drop (vi1+(1:Int)).toNat).length:Int) > (1:Int)))=true->0<=(0:Int)/\(0:Int) < ((s.drop (vi1+(1:Int)).toNat).length:Int))/\(((decide (((s.drop (vi1+(1:Int)).toNat).length:Int) > (1:Int)))&&((((s.drop (vi1+(1:Int)).toNat).getD ((0:Int)).toNat 0).toNat:Int)==(13:Int)))=true->0<=(1:Int)/\(1:Int) < ((s.drop (vi1+(1:Int)).toNat).length:Int)) then (if (((decide (((s.drop (vi1+(1:Int)).toNat).length:Int) > (1:Int)))&&((((s.drop (vi1+(1:Int)).toNat).getD ((0:Int)).toNat 0).toNat:Int)==(13:Int)))&&((((s.drop (vi1+(1:Int)).toNat).getD ((1:Int)).toNat 0).toNat:Int)==(10:Int)))=true then (if i64ok (vi1+(2:Int)) then (BQDecode_2 fuel (BQDecode_1 fuel f1) s (vi1+(2:Int)) vb2) else none) else (if (vb2.length+[UInt8.ofNat ((61:Int)).toNat].length) * 1<=140737488355328 then (BQDecode_2 fuel (BQDecode_1 fuel f1) s vi1 (vb2++[UInt8.ofNat ((61:Int)).toNat])) else none)) else none)) else none)) else none)) else none) else none) else (some vb2)
def FQDecode (fuel:Nat) (s:List UInt8):Option (List UInt8):=BQDecode_1 fuel fuel s (0:Int) []
noncomputable def cQDecode:Code:=bodyOf Tryz.f75
def envQDecode:Env:=mkEnv [(116,sp_digit)]
theorem envQDecode_ok:EnvOk Tryz.prog envQDecode:=EnvOk_mk ⟨ok_digit.any,trivial⟩
def envrQDecode:EnvR:=mkEnvR []
theorem envrQDecode_ok:EnvROk Tryz.prog envrQDecode:=EnvROk_mk trivial
theorem TQDecode (fuel:Nat) (s res:List UInt8) (h:FQDecode fuel s=some res) (C:Ctx) (hC:CtxOk C 89 []):
 T Tryz.prog C (at_ cQDecode []) (mkS [(0,.p (.str s))] []) (Qend Tryz.prog C Tryz.f75.results.toList (.p (.str res))):=by
 have henv:=envQDecode_ok
 have henvR:=envrQDecode_ok
 have hmx:Tryz.prog.follows .mixedOrders=true:=Checked.mixed Tryz.checked
 unfold FQDecode at h
 refine T_seqp (p:=[]) (by kernel_rfl) ?_
 refine T_reg henv hC [] [(0,.p (.str s))] [] [] (by kernel_rfl) (by kernel_rfl) trivial (fun s1 hs1=>?_)
 refine (T.weaken ?_ hs1:T Tryz.prog C (at_ cQDecode [1]) _ _)
 refine T_seqp (p:=[1]) (by kernel_rfl) ?_
 refine T_reg henv hC [(3,none)] [(0,.p (.str s)),(3,.arr 3)] [(3,.barr 5 false [])] [] (by kernel_rfl) (by kernel_rfl) trivial (fun s1 hs1=>?_)
 refine (T.weaken ?_ hs1:T Tryz.prog C (at_ cQDecode [1,1]) _ _)
 refine T_seqp (p:=[1,1]) (by kernel_rfl) ?_
 refine T_seqp (p:=[1,1,0]) (by kernel_rfl) ?_
 refine T_reg henv hC [(3,some 3)] [(0,.p (.str s)),(3,.arr 3),(4,.p (.int .i64 (0:Int)))] [(3,.barr 5 false [])] [] (by kernel_rfl) (by kernel_rfl) trivial (fun s1 hs1=>?_)
 refine (T.weaken ?_ hs1:T Tryz.prog C (at_ cQDecode [1,1,0,1]) _ _)
 refine T_blockp (p:=[1,1,0,1]) 0 (by kernel_rfl) ?_
 refine T.weaken ?_ (Sub_view (l:=[(0,.p (.str s)),(3,.arr 3),(4,.p (.int .i64 (0:Int)))]) (o:=[(3,.barr 5 false [])]) hC [(3,some 3)] (by kernel_rfl) (by kernel_rfl) (by kernel_rfl))
 refine T_loopp (p:=[1,1,0,1,0]) (by kernel_rfl) (fun f1 s2=>∃ (s:List UInt8) (vi1:Int) (vb2:List UInt8),s2=mkS [(0,.p (.str s)),(3,.arr 3),(4,.p (.int .i64 vi1))] [(3,.barr 5 false vb2)]/\BQDecode_1 fuel f1 s vi1 vb2=some res) ?_ fuel ⟨s,(0:Int),[],rfl,h⟩
 rintro f1 s2 ⟨s,vi1,vb2,rfl,h⟩
 cases f1 with
 | zero=>cases h
 | succ f1=>
  rw [BQDecode_1] at h
  refine T_seqp (p:=[1,1,0,1,0,0]) (by kernel_rfl) ?_
  refine T_seqp (p:=[1,1,0,1,0,0,0]) (by kernel_rfl) ?_
  refine T_reg henv hC [(3,some 3)] [(0,.p (.str s)),(3,.arr 3),(4,.p (.int .i64 vi1)),(9,.p (.bool (decide (vi1 < (s.length:Int)))))] [(3,.barr 5 false vb2)] [] (by kernel_rfl) (by kernel_rfl) trivial (fun s1 hs1=>?_)
  refine (T.weaken ?_ hs1:T Tryz.prog C (at_ cQDecode [1,1,0,1,0,0,0,1]) _ _)
  refine T_condp (p:=[1,1,0,1,0,0,0,1]) (by kernel_rfl) (decide (vi1 < (s.length:Int))) (by kernel_rfl) (fun hb=>?_) (fun hb=>?_)
  .have h:=ite_t h hb
   refine T_skipp (p:=[1,1,0,1,0,0,0,1,0]) (by kernel_rfl) ?_
   refine (T.weaken ?_ (Sub.refl _):T Tryz.prog C (at_ cQDecode [1,1,0,1,0,0,1]) _ _)
   refine T_join (p:=[1,1,0,1,0,0,1]) (by kernel_rfl) (fun s2=>∃ (s:List UInt8) (vi3:Int) (vb4:List UInt8),BQDecode_2 fuel (BQDecode_1 fuel f1) s vi3 vb4=some res/\Sub C s2 (mkS [(0,.p (.str s)),(3,.arr 3),(4,.p (.int .i64 vi3))] [(3,.barr 5 false vb4)])) ?_ ?_
   .refine T_blockp (p:=[1,1,0,1,0,0,1,0]) 1 (by kernel_rfl) ?_
    refine T_seqp (p:=[1,1,0,1,0,0,1,0,0]) (by kernel_rfl) ?_
    obtain ⟨hob,h⟩:=ite_get h
    refine T_reg henv hC [(3,some 3)] [(0,.p (.str s)),(3,.arr 3),(4,.p (.int .i64 vi1)),(5,.p (.str (s.drop (vi1+(1:Int)).toNat)))] [(3,.barr 5 false vb2)] [i64ok (vi1+(1:Int)),0<=(vi1+(1:Int))/\(vi1+(1:Int))<=(s.length:Int)] (by kernel_rfl) (by kernel_rfl) ⟨hob.1,hob.2,trivial⟩ (fun s1 hs1=>?_)
    refine (T.weaken ?_ hs1:T Tryz.prog C (at_ cQDecode [1,1,0,1,0,0,1,0,0,1]) _ _)
    refine T_blockp (p:=[1,1,0,1,0,0,1,0,0,1]) 2 (by kernel_rfl) ?_
    refine T_seqp (p:=[1,1,0,1,0,0,1,0,0,1,0]) (by kernel_rfl) ?_
    obtain ⟨hob,h⟩:=ite_get h
    refine T_reg henv hC [(3,some 3)] [(0,.p (.str s)),(3,.arr 3),(4,.p (.int .i64 vi1)),(5,.p (.str (s.drop (vi1+(1:Int)).toNat))),(19,.p (.bool (((s.getD (vi1).toNat 0).toNat:Int) != (61:Int))))] [(3,.barr 5 false vb2)] [0<=vi1/\vi1 < (s.length:Int)] (by kernel_rfl) (by kernel_rfl) ⟨hob,trivial⟩ (fun s1 hs1=>?_)
    refine (T.weaken ?_ hs1:T Tryz.prog C (at_ cQDecode [1,1,0,1,0,0,1,0,0,1,0,1]) _ _)
    refine T_condp (p:=[1,1,0,1,0,0,1,0,0,1,0,1]) (by kernel_rfl) (((s.getD (vi1).toNat 0).toNat:Int) != (61:Int)) (by kernel_rfl) (fun hb=>?_) (fun hb=>?_)
    .have h:=ite_t h hb
     obtain ⟨hob,h⟩:=ite_get h
     refine T_reg henv hC [(3,some 29)] [(0,.p (.str s)),(3,.arr 3),(4,.p (.int .i64 vi1))] [(3,.barr 5 false (vb2++[UInt8.ofNat (((s.getD (vi1).toNat 0).toNat:Int)).toNat]))] [0<=vi1/\vi1 < (s.length:Int),(vb2.length+[UInt8.ofNat (((s.getD (vi1).toNat 0).toNat:Int)).toNat].length) * 1<=140737488355328] (by kernel_rfl) (by kernel_rfl) ⟨hob.1,hob.2,trivial⟩ (fun s1 hs1=>?_)
     exact ⟨s,vi1,vb2++[UInt8.ofNat (((s.getD (vi1).toNat 0).toNat:Int)).toNat],h,Sub.trans hs1 (Sub_view hC [(3,some 3)] (by kernel_rfl) (by kernel_rfl) (by kernel_rfl))⟩
    .have h:=ite_f h hb
     refine T_seqp (p:=[1,1,0,1,0,0,1,0,0,1,0,1,1]) (by kernel_rfl) ?_
     obtain ⟨hob,h⟩:=ite_get h
     refine T_reg henv hC [(3,some 3)] [(0,.p (.str s)),(3,.arr 3),(4,.p (.int .i64 vi1)),(5,.p (.str (s.drop (vi1+(1:Int)).toNat))),(30,.p (.bool (((decide (((s.drop (vi1+(1:Int)).toNat).length:Int) > (1:Int)))&&(decide ((digitS (((s.drop (vi1+(1:Int)).toNat).getD ((0:Int)).toNat 0).toNat:Int))>=(0:Int))))&&(decide ((digitS (((s.drop (vi1+(1:Int)).toNat).getD ((1:Int)).toNat 0).toNat:Int))>=(0:Int))))))] [(3,.barr 5 false vb2)] [(decide (((s.drop (vi1+(1:Int)).toNat).length:Int) > (1:Int)))=true->(decide (((s.drop (vi1+(1:Int)).toNat).length:Int) > (1:Int)))=true,(decide (((s.drop (vi1+(1:Int)).toNat).length:Int) > (1:Int)))=true->0<=(0:Int)/\(0:Int) < ((s.drop (vi1+(1:Int)).toNat).length:Int),(decide (((s.drop (vi1+(1:Int)).toNat).length:Int) > (1:Int)))=true->(decide (((s.drop (vi1+(1:Int)).toNat).length:Int) > (1:Int)))=true,(decide (((s.drop (vi1+(1:Int)).toNat).length:Int) > (1:Int)))=true->(decide (((s.drop (vi1+(1:Int)).toNat).length:Int) > (1:Int)))=true,(decide (((s.drop (vi1+(1:Int)).toNat).length:Int) > (1:Int)))=true->(decide (((s.drop (vi1+(1:Int)).toNat).length:Int) > (1:Int)))=true,((decide (((s.drop (vi1+(1:Int)).toNat).length:Int) > (1:Int)))&&(decide ((digitS (((s.drop (vi1+(1:Int)).toNat).getD ((0:Int)).toNat 0).toNat:Int))>=(0:Int))))=true->((decide (((s.drop (vi1+(1:Int)).toNat).length:Int) > (1:Int)))&&(decide ((digitS (((s.drop (vi1+(1:Int)).toNat).getD ((0:Int)).toNat 0).toNat:Int))>=(0:Int))))=true,((decide (((s.drop (vi1+(1:Int)).toNat).length:Int) > (1:Int)))&&(decide ((digitS (((s.drop (vi1+(1:Int)).toNat).getD ((0:Int)).toNat 0).toNat:Int))>=(0:Int))))=true->0<=(1:Int)/\(1:Int) < ((s.drop (vi1+(1:Int)).toNat).length:Int),((decide (((s.drop (vi1+(1:Int)).toNat).length:Int) > (1:Int)))&&(decide ((digitS (((s.drop (vi1+(1:Int)).toNat).getD ((0:Int)).toNat 0).toNat:Int))>=(0:Int))))=true->((decide (((s.drop (vi1+(1:Int)).toNat).length:Int) > (1:Int)))&&(decide ((digitS (((s.drop (vi1+(1:Int)).toNat).getD ((0:Int)).toNat 0).toNat:Int))>=(0:Int))))=true,((decide (((s.drop (vi1+(1:Int)).toNat).length:Int) > (1:Int)))&&(decide ((digitS (((s.drop (vi1+(1:Int)).toNat).getD ((0:Int)).toNat 0).toNat:Int))>=(0:Int))))=true->((decide (((s.drop (vi1+(1:Int)).toNat).length:Int) > (1:Int)))&&(decide ((digitS (((s.drop (vi1+(1:Int)).toNat).getD ((0:Int)).toNat 0).toNat:Int))>=(0:Int))))=true,((decide (((s.drop (vi1+(1:Int)).toNat).length:Int) > (1:Int)))&&(decide ((digitS (((s.drop (vi1+(1:Int)).toNat).getD ((0:Int)).toNat 0).toNat:Int))>=(0:Int))))=true->((decide (((s.drop (vi1+(1:Int)).toNat).length:Int) > (1:Int)))&&(decide ((digitS (((s.drop (vi1+(1:Int)).toNat).getD ((0:Int)).toNat 0).toNat:Int))>=(0:Int))))=true] (by kernel_rfl) (by kernel_rfl) ⟨(fun q0=>q0),hob.1,(fun q0=>q0),(fun q0=>q0),(fun q0=>q0),(fun q0=>q0),hob.2,(fun q0=>q0),(fun q0=>q0),(fun q0=>q0),trivial⟩ (fun s1 hs1=>?_)
     refine (T.weaken ?_ hs1:T Tryz.prog C (at_ cQDecode [1,1,0,1,0,0,1,0,0,1,0,1,1,1]) _ _)
     refine T_condp (p:=[1,1,0,1,0,0,1,0,0,1,0,1,1,1]) (by kernel_rfl) (((decide (((s.drop (vi1+(1:Int)).toNat).length:Int) > (1:Int)))&&(decide ((digitS (((s.drop (vi1+(1:Int)).toNat).getD ((0:Int)).toNat 0).toNat:Int))>=(0:Int))))&&(decide ((digitS (((s.drop (vi1+(1:Int)).toNat).getD ((1:Int)).toNat 0).toNat:Int))>=(0:Int)))) (by kernel_rfl) (fun hb=>?_) (fun hb=>?_)
     .have h:=ite_t h hb
      refine T_seqp (p:=[1,1,0,1,0,0,1,0,0,1,0,1,1,1,0]) (by kernel_rfl) ?_
      obtain ⟨hob,h⟩:=ite_get h
      refine T_regdW henv henvR hmx hC [] [(3,some 57)] [(0,.p (.str s)),(3,.arr 3),(4,.p (.int .i64 vi1))] [(3,.barr 5 false (vb2++[UInt8.ofNat (IntKind.u8.wrap (ibits .or .i64 (IntKind.i64.wrap ((digitS (((s.drop (vi1+(1:Int)).toNat).getD ((0:Int)).toNat 0).toNat:Int)) * 2 ^ (min ((4:Int)).toNat 64))) (digitS (((s.drop (vi1+(1:Int)).toNat).getD ((1:Int)).toNat 0).toNat:Int)))).toNat]))] [0<=(0:Int)/\(0:Int) < ((s.drop (vi1+(1:Int)).toNat).length:Int),0<=(4:Int),0<=(1:Int)/\(1:Int) < ((s.drop (vi1+(1:Int)).toNat).length:Int),(vb2.length+[UInt8.ofNat (IntKind.u8.wrap (ibits .or .i64 (IntKind.i64.wrap ((digitS (((s.drop (vi1+(1:Int)).toNat).getD ((0:Int)).toNat 0).toNat:Int)) * 2 ^ (min ((4:Int)).toNat 64))) (digitS (((s.drop (vi1+(1:Int)).toNat).getD ((1:Int)).toNat 0).toNat:Int)))).toNat].length) * 1<=140737488355328] (by kernel_rfl) (by kernel_rfl) (by kernel_rfl) ⟨hob.1,hob.2.1,hob.2.2.1,hob.2.2.2,trivial⟩ (fun s1 hs1=>?_)
      refine (T.weaken ?_ hs1:T Tryz.prog C (at_ cQDecode [1,1,0,1,0,0,1,0,0,1,0,1,1,1,0,1]) _ _)
      obtain ⟨hob,h⟩:=ite_get h
      refine T_reg henv hC [(3,some 3)] [(0,.p (.str s)),(3,.arr 3),(4,.p (.int .i64 (vi1+(2:Int))))] [(3,.barr 5 false (vb2++[UInt8.ofNat (IntKind.u8.wrap (ibits .or .i64 (IntKind.i64.wrap ((digitS (((s.drop (vi1+(1:Int)).toNat).getD ((0:Int)).toNat 0).toNat:Int)) * 2 ^ (min ((4:Int)).toNat 64))) (digitS (((s.drop (vi1+(1:Int)).toNat).getD ((1:Int)).toNat 0).toNat:Int)))).toNat]))] [i64ok (vi1+(2:Int))] (by kernel_rfl) (by kernel_rfl) ⟨hob,trivial⟩ (fun s1 hs1=>?_)
      exact ⟨s,vi1+(2:Int),vb2++[UInt8.ofNat (IntKind.u8.wrap (ibits .or .i64 (IntKind.i64.wrap ((digitS (((s.drop (vi1+(1:Int)).toNat).getD ((0:Int)).toNat 0).toNat:Int)) * 2 ^ (min ((4:Int)).toNat 64))) (digitS (((s.drop (vi1+(1:Int)).toNat).getD ((1:Int)).toNat 0).toNat:Int)))).toNat],h,Sub.trans hs1 (Sub_view hC [(3,some 3)] (by kernel_rfl) (by kernel_rfl) (by kernel_rfl))⟩
     .have h:=ite_f h hb
      refine T_seqp (p:=[1,1,0,1,0,0,1,0,0,1,0,1,1,1,1]) (by kernel_rfl) ?_
      obtain ⟨hob,h⟩:=ite_get h
      refine T_reg henv hC [(3,some 3)] [(0,.p (.str s)),(3,.arr 3),(4,.p (.int .i64 vi1)),(5,.p (.str (s.drop (vi1+(1:Int)).toNat))),(60,.p (.bool ((decide (((s.drop (vi1+(1:Int)).toNat).length:Int) > (0:Int)))&&((((s.drop (vi1+(1:Int)).toNat).getD ((0:Int)).toNat 0).toNat:Int)==(10:Int)))))] [(3,.barr 5 false vb2)] [(decide (((s.drop (vi1+(1:Int)).toNat).length:Int) > (0:Int)))=true->(decide (((s.drop (vi1+(1:Int)).toNat).length:Int) > (0:Int)))=true,(decide (((s.drop (vi1+(1:Int)).toNat).length:Int) > (0:Int)))=true->0<=(0:Int)/\(0:Int) < ((s.drop (vi1+(1:Int)).toNat).length:Int),(decide (((s.drop (vi1+(1:Int)).toNat).length:Int) > (0:Int)))=true->(decide (((s.drop (vi1+(1:Int)).toNat).length:Int) > (0:Int)))=true,(decide (((s.drop (vi1+(1:Int)).toNat).length:Int) > (0:Int)))=true->(decide (((s.drop (vi1+(1:Int)).toNat).length:Int) > (0:Int)))=true] (by kernel_rfl) (by kernel_rfl) ⟨(fun q0=>q0),hob,(fun q0=>q0),(fun q0=>q0),trivial⟩ (fun s1 hs1=>?_)
      refine (T.weaken ?_ hs1:T Tryz.prog C (at_ cQDecode [1,1,0,1,0,0,1,0,0,1,0,1,1,1,1,1]) _ _)
      refine T_condp (p:=[1,1,0,1,0,0,1,0,0,1,0,1,1,1,1,1]) (by kernel_rfl) ((decide (((s.drop (vi1+(1:Int)).toNat).length:Int) > (0:Int)))&&((((s.drop (vi1+(1:Int)).toNat).getD ((0:Int)).toNat 0).toNat:Int)==(10:Int))) (by kernel_rfl) (fun hb=>?_) (fun hb=>?_)
      .have h:=ite_t h hb
       obtain ⟨hob,h⟩:=ite_get h
       refine T_reg henv hC [(3,some 3)] [(0,.p (.str s)),(3,.arr 3),(4,.p (.int .i64 (vi1+(1:Int))))] [(3,.barr 5 false vb2)] [i64ok (vi1+(1:Int))] (by kernel_rfl) (by kernel_rfl) ⟨hob,trivial⟩ (fun s1 hs1=>?_)
       exact ⟨s,vi1+(1:Int),vb2,h,Sub.trans hs1 (Sub_view hC [(3,some 3)] (by kernel_rfl) (by kernel_rfl) (by kernel_rfl))⟩
      .have h:=ite_f h hb
       refine T_seqp (p:=[1,1,0,1,0,0,1,0,0,1,0,1,1,1,1,1,1]) (by kernel_rfl) ?_
       obtain ⟨hob,h⟩:=ite_get h
       refine T_reg henv hC [(3,some 3)] [(0,.p (.str s)),(3,.arr 3),(4,.p (.int .i64 vi1)),(71,.p (.bool (((decide (((s.drop (vi1+(1:Int)).toNat).length:Int) > (1:Int)))&&((((s.drop (vi1+(1:Int)).toNat).getD ((0:Int)).toNat 0).toNat:Int)==(13:Int)))&&((((s.drop (vi1+(1:Int)).toNat).getD ((1:Int)).toNat 0).toNat:Int)==(10:Int)))))] [(3,.barr 5 false vb2)] [(decide (((s.drop (vi1+(1:Int)).toNat).length:Int) > (1:Int)))=true->(decide (((s.drop (vi1+(1:Int)).toNat).length:Int) > (1:Int)))=true,(decide (((s.drop (vi1+(1:Int)).toNat).length:Int) > (1:Int)))=true->0<=(0:Int)/\(0:Int) < ((s.drop (vi1+(1:Int)).toNat).length:Int),(decide (((s.drop (vi1+(1:Int)).toNat).length:Int) > (1:Int)))=true->(decide (((s.drop (vi1+(1:Int)).toNat).length:Int) > (1:Int)))=true,(decide (((s.drop (vi1+(1:Int)).toNat).length:Int) > (1:Int)))=true->(decide (((s.drop (vi1+(1:Int)).toNat).length:Int) > (1:Int)))=true,((decide (((s.drop (vi1+(1:Int)).toNat).length:Int) > (1:Int)))&&((((s.drop (vi1+(1:Int)).toNat).getD ((0:Int)).toNat 0).toNat:Int)==(13:Int)))=true->((decide (((s.drop (vi1+(1:Int)).toNat).length:Int) > (1:Int)))&&((((s.drop (vi1+(1:Int)).toNat).getD ((0:Int)).toNat 0).toNat:Int)==(13:Int)))=true,((decide (((s.drop (vi1+(1:Int)).toNat).length:Int) > (1:Int)))&&((((s.drop (vi1+(1:Int)).toNat).getD ((0:Int)).toNat 0).toNat:Int)==(13:Int)))=true->0<=(1:Int)/\(1:Int) < ((s.drop (vi1+(1:Int)).toNat).length:Int),((decide (((s.drop (vi1+(1:Int)).toNat).length:Int) > (1:Int)))&&((((s.drop (vi1+(1:Int)).toNat).getD ((0:Int)).toNat 0).toNat:Int)==(13:Int)))=true->((decide (((s.drop (vi1+(1:Int)).toNat).length:Int) > (1:Int)))&&((((s.drop (vi1+(1:Int)).toNat).getD ((0:Int)).toNat 0).toNat:Int)==(13:Int)))=true,((decide (((s.drop (vi1+(1:Int)).toNat).length:Int) > (1:Int)))&&((((s.drop (vi1+(1:Int)).toNat).getD ((0:Int)).toNat 0).toNat:Int)==(13:Int)))=true->((decide (((s.drop (vi1+(1:Int)).toNat).length:Int) > (1:Int)))&&((((s.drop (vi1+(1:Int)).toNat).getD ((0:Int)).toNat 0).toNat:Int)==(13:Int)))=true] (by kernel_rfl) (by kernel_rfl) ⟨(fun q0=>q0),hob.1,(fun q0=>q0),(fun q0=>q0),(fun q0=>q0),hob.2,(fun q0=>q0),(fun q0=>q0),trivial⟩ (fun s1 hs1=>?_)
       refine (T.weaken ?_ hs1:T Tryz.prog C (at_ cQDecode [1,1,0,1,0,0,1,0,0,1,0,1,1,1,1,1,1,1]) _ _)
       refine T_condp (p:=[1,1,0,1,0,0,1,0,0,1,0,1,1,1,1,1,1,1]) (by kernel_rfl) (((decide (((s.drop (vi1+(1:Int)).toNat).length:Int) > (1:Int)))&&((((s.drop (vi1+(1:Int)).toNat).getD ((0:Int)).toNat 0).toNat:Int)==(13:Int)))&&((((s.drop (vi1+(1:Int)).toNat).getD ((1:Int)).toNat 0).toNat:Int)==(10:Int))) (by kernel_rfl) (fun hb=>?_) (fun hb=>?_)
       .have h:=ite_t h hb
        obtain ⟨hob,h⟩:=ite_get h
        refine T_reg henv hC [(3,some 3)] [(0,.p (.str s)),(3,.arr 3),(4,.p (.int .i64 (vi1+(2:Int))))] [(3,.barr 5 false vb2)] [i64ok (vi1+(2:Int))] (by kernel_rfl) (by kernel_rfl) ⟨hob,trivial⟩ (fun s1 hs1=>?_)
        exact ⟨s,vi1+(2:Int),vb2,h,Sub.trans hs1 (Sub_view hC [(3,some 3)] (by kernel_rfl) (by kernel_rfl) (by kernel_rfl))⟩
       .have h:=ite_f h hb
        obtain ⟨hob,h⟩:=ite_get h
        refine T_reg henv hC [(3,some 18)] [(0,.p (.str s)),(3,.arr 3),(4,.p (.int .i64 vi1))] [(3,.barr 5 false (vb2++[UInt8.ofNat ((61:Int)).toNat]))] [(vb2.length+[UInt8.ofNat ((61:Int)).toNat].length) * 1<=140737488355328] (by kernel_rfl) (by kernel_rfl) ⟨hob,trivial⟩ (fun s1 hs1=>?_)
        exact ⟨s,vi1,vb2++[UInt8.ofNat ((61:Int)).toNat],h,Sub.trans hs1 (Sub_view hC [(3,some 3)] (by kernel_rfl) (by kernel_rfl) (by kernel_rfl))⟩
   .rintro s2 ⟨s,vi3,vb4,h,hs2⟩
    unfold BQDecode_2 at h
    refine (T.weaken ?_ hs2:T Tryz.prog C (at_ cQDecode [1,1,0,1,0,0,1,1]) _ _)
    obtain ⟨hob,h⟩:=ite_get h
    refine T_reg henv hC [(3,some 3)] [(0,.p (.str s)),(3,.arr 3),(4,.p (.int .i64 (vi3+(1:Int))))] [(3,.barr 5 false vb4)] [i64ok (vi3+(1:Int))] (by kernel_rfl) (by kernel_rfl) ⟨hob,trivial⟩ (fun s1 hs1=>?_)
    exact ⟨f1,_,Nat.lt_succ_self f1,⟨s,vi3+(1:Int),vb4,rfl,h⟩,Sub.trans hs1 (Sub_view hC [(3,some 3)] (by kernel_rfl) (by kernel_rfl) (by kernel_rfl))⟩
  .have h:=ite_f h hb
   refine T_exitp (p:=[1,1,0,1,0,0,0,1,1]) 0 (by kernel_rfl) ?_
   refine then_exit ?_
   refine then_exit ?_
   refine inblock_hit ?_
   refine (T.weaken ?_ (Sub.refl _):T Tryz.prog C (at_ cQDecode [1,1,1]) _ _)
   refine T_seqp (p:=[1,1,1]) (by kernel_rfl) ?_
   refine T_reg henv hC [] [(2,.p (.str vb2))] [] [] (by kernel_rfl) (by kernel_rfl) trivial (fun s1 hs1=>?_)
   refine (T.weaken ?_ hs1:T Tryz.prog C (at_ cQDecode [1,1,1,1]) _ _)
   refine T_retp (p:=[1,1,1,1]) (by kernel_rfl) ?_
   have h:=Option.some.inj h; subst h
   exact ⟨mkS [(2,.p (.str vb2))] [],(Sub.refl _),by kernel_rfl⟩
theorem fn_QDecode (fuel:Nat) (s res:List UInt8) (h:(∃ M vs,ARels γ0 M [.p (.str s)] vs)->FQDecode fuel s=some res):FnP Tryz.prog 75 [.p (.str s)] (.p (.str res)):=
 FnP_lift (fn:=Tryz.f75) (by kernel_rfl) (by kernel_rfl) fun M vs hvs C hC0=>have hC:CtxOk C 89 []:=⟨hC0.nt.trans (by kernel_rfl),hC0.fx⟩; T.weaken (TQDecode fuel s res (h ⟨M,vs,hvs⟩) C hC) (sinit_sub hC (by kernel_rfl) (by kernel_rfl))
def hexB (x y:UInt8):UInt8:=UInt8.ofNat (16 * digitS x.toNat+digitS y.toNat).toNat
def isHex (x:UInt8):Prop:=0<=digitS x.toNat
instance (x:UInt8):Decidable (isHex x):=inferInstanceAs (Decidable (0<=digitS x.toNat))
def qdec:List UInt8->List UInt8
 | []=>[]
 | c::r=>if c≠61 then c::qdec r else
  match r with
  | x::y::t=>if isHex x/\isHex y then hexB x y::qdec t else if x=10 then qdec (y::t) else if x=13/\y=10 then qdec t else 61::qdec (x::y::t)
  | [x]=>if x=10 then [] else 61::qdec [x]
  | []=>[61]
termination_by l=>l.length
decreasing_by all_goals (simp; try omega)
theorem qdec_nil:qdec []=[]:=by rw [qdec.eq_def]
theorem qdec_ne {c:UInt8} (h:c≠61) (r:List UInt8):qdec (c::r)=c::qdec r:=by rw [qdec.eq_def]; simp [h]
theorem qdec_1:qdec [61]=[61]:=by rw [qdec.eq_def]; simp
theorem qdec_2 (x:UInt8):qdec [61,x]=if x=10 then [] else 61::qdec [x]:=by rw [qdec.eq_def]; simp
theorem qdec_3 (x y:UInt8) (t:List UInt8):qdec (61::x::y::t)=if isHex x/\isHex y then hexB x y::qdec t else if x=10 then qdec (y::t) else if x=13/\y=10 then qdec t else 61::qdec (x::y::t):=by
 rw [qdec.eq_def]; simp
theorem digitS_lt (c:Int):digitS c < 16/\-1<=digitS c:=by unfold digitS; split <;> (try split) <;> (try split) <;> omega
theorem or_digits {a b:Int} (ha:0<=a) (ha2:a < 16) (hb:0<=b) (hb2:b < 16):IntKind.u8.wrap (ibits .or .i64 (IntKind.i64.wrap (a * 2 ^ (min ((4:Int)).toNat 64))) b)=16 * a+b:=by
 obtain ⟨x,rfl⟩:=Int.eq_ofNat_of_zero_le ha
 obtain ⟨y,rfl⟩:=Int.eq_ofNat_of_zero_le hb
 have hx:x < 16:=by omega
 have hy:y < 16:=by omega
 have:∀ x:Fin 16,∀ y:Fin 16,IntKind.u8.wrap (ibits .or .i64 (IntKind.i64.wrap (((x.val:Nat):Int) * 2 ^ (min ((4:Int)).toNat 64))) ((y.val:Nat):Int))=16 * ((x.val:Nat):Int)+((y.val:Nat):Int):=by decide
 exact this ⟨x,hx⟩ ⟨y,hy⟩
theorem BQDecode_eq (fuel:Nat) (s:List UInt8) (hs:s.length<=1000000):∀ (f i:Nat) (b:List UInt8),s.length < f+i->i<=s.length->b.length<=i->
 BQDecode_1 fuel f s (i:Int) b=some (b++qdec (s.drop i)):=by
 intro f
 induction f with
 | zero=>intro i b h1 h2; omega
 | succ f ih=>
  intro i b h1 h2 h3
  cases hd:s.drop i with
  | nil=>
   have:s.length<=i:=by have:=congrArg List.length hd; simp at this; omega
   rw [BQDecode_1,if_neg (by simp; omega),qdec_nil]
   simp
  | cons c r=>
   obtain ⟨e1,e2,e3⟩:=drop_cons hd
   have t1:((i:Int)+1).toNat=i+1:=by omega
   have ok:∀ n:Int,0<=n->n<=10000000->i64ok n:=fun n h h'=>i64ok_small (by omega) (by omega)
   have next:∀ (k:Nat) (b':List UInt8),i+k+1<=s.length->b'.length<=i+k+1->BQDecode_2 fuel (BQDecode_1 fuel f) s ((i:Int)+k) b'=some (b'++qdec (s.drop (i+k+1))):=by
    intro k b' hk hb
    unfold BQDecode_2
    rw [if_pos (ok _ (by omega) (by omega))]
    have:=ih (i+k+1) b' (by omega) hk hb
    rw [<-this]; congr 1
   have d0:s.drop (i+0+1)=r:=e2
   rw [BQDecode_1,if_pos (by simp; omega),if_pos ⟨ok _ (by omega) (by omega),by omega,by omega⟩,if_pos (by omega)]
   simp only [Int.toNat_natCast,e1,t1,e2]
   have n0:=next 0
   simp only [Int.natCast_zero,Int.add_zero,d0] at n0
   by_cases hc:c=61
   .subst hc
    rw [if_neg (by decide)]
    match r,e3,d0,n0,hd with
    | [],e3,d0,n0,hd=>
     rw [if_pos (by simp),if_neg (by simp),if_pos (by simp),if_neg (by simp),if_pos (by simp),if_neg (by simp),if_pos (by simp; omega),n0 _ (by simp at e3; omega) (by simp; omega),qdec_1,qdec_nil]
     simp
    | [x],e3,d0,n0,hd=>
     simp only [List.length_cons,List.length_nil] at e3
     rw [if_pos (by simp),if_neg (by simp),if_pos (by simp)]
     by_cases hx:x=10
     .subst hx
      have n1:=next 1 b (by omega) (by omega)
      rw [if_pos (by simp),if_pos (ok _ (by omega) (by omega))]
      refine n1.trans ?_
      rw [qdec_2,List.drop_of_length_le (by omega),qdec_nil]; rfl
     .have hx':¬ ((x.toNat:Int)=10):=fun e=>hx (u8_eq (d:=10) |>.1 e)
      rw [if_neg (by simp; exact fun e=>hx (u8_eq (d:=10) |>.1 e)),if_pos (by simp),if_neg (by simp),if_pos (by simp; omega),n0 _ (by omega) (by simp; omega),qdec_2,if_neg hx]
      simp
    | x::y::t,e3,d0,n0,hd=>
     simp only [List.length_cons] at e3
     have hl:((t.length:Int)+1+1 > 1):=by omega
     have dx:=digitS_lt (x.toNat)
     have dy:=digitS_lt (y.toNat)
     have d2:s.drop (i+2+1)=t:=by
      have:(s.drop (i+1)).drop 2=t:=by rw [d0]; rfl
      rw [List.drop_drop] at this; exact this
     have d1:s.drop (i+1+1)=y::t:=by
      have:(s.drop (i+1)).drop 1=y::t:=by rw [d0]; rfl
      rw [List.drop_drop] at this; exact this
     rw [if_pos (by simp; omega),qdec_3]
     by_cases hh:isHex x/\isHex y
     .have h1:(0:Int)<=digitS x.toNat:=hh.1
      have h2':(0:Int)<=digitS y.toNat:=hh.2
      rw [if_pos (by simpa using ⟨⟨by omega,h1⟩,h2'⟩),if_pos hh]
      have e:[UInt8.ofNat (IntKind.u8.wrap (ibits .or .i64 (IntKind.i64.wrap ((digitS ((((x::y::t).getD ((0:Int)).toNat 0).toNat:Int))) * 2 ^ (min ((4:Int)).toNat 64))) (digitS ((((x::y::t).getD ((1:Int)).toNat 0).toNat:Int))))).toNat]=[hexB x y]:=by
       show [UInt8.ofNat (IntKind.u8.wrap (ibits .or .i64 (IntKind.i64.wrap ((digitS (x.toNat:Int)) * 2 ^ (min ((4:Int)).toNat 64))) (digitS (y.toNat:Int)))).toNat]=_
       rw [or_digits h1 dx.1 h2' dy.1]; rfl
      rw [e]
      have n2:=next 2 (b++[hexB x y]) (by omega) (by simp; omega)
      rw [if_pos ⟨by simp; omega,by omega,by simp; omega,by simp; omega⟩,if_pos (ok _ (by omega) (by omega))]
      refine n2.trans ?_
      rw [d2]; simp
     .rw [if_neg (by
       intro h; simp at h
       exact hh ⟨h.1.2,h.2⟩),if_neg hh,if_pos (by simp)]
      by_cases hx:x=10
      .subst hx
       rw [if_pos (by simp; omega),if_pos (ok _ (by omega) (by omega)),if_pos rfl]
       refine (next 1 b (by omega) (by omega)).trans ?_
       rw [d1]
      .have hx':¬ ((x.toNat:Int)=10):=fun e=>hx (u8_eq (d:=10) |>.1 e)
       rw [if_neg (by
        intro h; simp at h
        exact hx (u8_eq (d:=10) |>.1 h.2)),if_neg hx,if_pos (by simp; omega)]
       by_cases hxy:x=13/\y=10
       .obtain ⟨rfl,rfl⟩:=hxy
        rw [if_pos (by simp; omega),if_pos (ok _ (by omega) (by omega)),if_pos ⟨rfl,rfl⟩]
        refine (next 2 b (by omega) (by omega)).trans ?_
        rw [d2]
       .rw [if_neg (by
         intro h; simp at h
         exact hxy ⟨u8_eq (d:=13) |>.1 h.1.2,u8_eq (d:=10) |>.1 h.2⟩),if_neg hxy,if_pos (by simp; omega),n0 _ (by omega) (by simp; omega)]
        simp
   .have hc':(((c.toNat:Int) != 61)=true):=by simpa using fun e=>hc (u8_eq (d:=61) |>.1 e)
    rw [if_pos hc',if_pos ⟨by omega,by simp; omega⟩,n0 _ (by omega) (by simp; omega),qdec_ne hc]
    simp
theorem QDecode_eq (s:List UInt8) (hs:s.length<=1000000):FQDecode 1000001 s=some (qdec s):=by
 have:=BQDecode_eq 1000001 s hs 1000001 0 [] (by omega) (by omega) (by simp)
 simpa [FQDecode] using this
def sp_QDecode:List AV->Option (AV×Option Prop):=spStr qdec
theorem ok_QDecode:SpecOk Tryz.prog 75 sp_QDecode:=spStr_ok (by kernel_rfl) fun s hs=>fn_QDecode 1000001 s _ fun _=>QDecode_eq s hs
end Go.Proofs.YtoanepondbagcaaGreatDoor
namespace Go.Proofs.YtoanepondbagcaaGreatDoor
open Go Go.Am
set_option linter.unusedVariables false
theorem qdec_len:∀ (n:Nat) (s:List UInt8),s.length<=n->(qdec s).length<=s.length:=by
 intro n
 induction n with
 | zero=>intro s h; have:s=[]:=List.eq_nil_of_length_eq_zero (by omega); subst this; simp [qdec_nil]
 | succ n ih=>
  intro s h
  match s,h with
  | [],_=>simp [qdec_nil]
  | c::r,h=>
   by_cases hc:c=61
   .subst hc
    match r,h with
    | [],_=>rw [qdec_1]; simp
    | [x],h=>
     rw [qdec_2]; split
     .simp
     .have:=ih [x] (by simp at h ⊢; omega)
      simp at this ⊢; omega
    | x::y::t,h=>
     simp at h
     rw [qdec_3]
     split
     .have:=ih t (by omega); simp; omega
     .split
      .have:=ih (y::t) (by simp; omega); simp at this ⊢; omega
      .split
       .have:=ih t (by omega); simp; omega
       .have:=ih (x::y::t) (by simp; omega); simp at this ⊢; omega
   .rw [qdec_ne hc]
    have:=ih r (by simp at h; omega)
    simp; omega
abbrev sOpen:List UInt8:=[61,63]
abbrev sShut:List UInt8:=[63,61]
def parse (s:List UInt8) (i:Nat):Option (Nat×Nat):=
 if hasP (s.drop i) sOpen=false then none else
 if runN s (i+2)=i+2\/s.length < runN s (i+2)+3\/s.getD (runN s (i+2)) 0≠63\/s.getD (runN s (i+2)+2) 0≠63 then none else
 if hasP (s.drop (runN s (runN s (i+2)+3))) sShut=false then none else some (runN s (i+2),runN s (runN s (i+2)+3))
def bodyS (k:UInt8) (t:List UInt8):Option (List UInt8):=
 if k=66\/k=98 then some (looseB t) else if k=81\/k=113 then some (qdec (repS t 95 32)) else none
def oneS (s:List UInt8) (i:Int):List UInt8×Int×Bool:=
 match parse s i.toNat with
 | none=>([],i,false)
 | some (a,b)=>match bodyS (s.getD (a+1) 0) ((s.take b).drop (a+3)) with
  | none=>([],i,false)
  | some u=>((saysS ((s.take a).drop (i.toNat+2)) u).1,((b+2:Nat):Int),(saysS ((s.take a).drop (i.toNat+2)) u).2)
def oneT (p:List UInt8×Int×Bool):AV:=.tup [.p (.str p.1),.p (.int .i64 p.2.1),.p (.bool p.2.2)]
theorem u8n (c d:UInt8):((c.toNat:Int)==(d.toNat:Int))=(c==d):=by
 rw [Bool.eq_iff_iff]; simp only [beq_iff_eq]; exact u8_eq
theorem u8ne (c d:UInt8):((c.toNat:Int) != (d.toNat:Int))=(c != d):=by simp only [bne,u8n]
theorem hasP2 {s p:List UInt8} (h:hasP s p=true):p.length<=s.length:=by
 unfold hasP at h
 rw [beq_iff_eq] at h
 have:=congrArg List.length h
 simp at this; omega
theorem rep_len (s:List UInt8) (c d:UInt8):(repS s c d).length=s.length:=by simp [repS]
theorem mid_len (s:List UInt8) (a b:Nat):((s.take b).drop a).length<=s.length:=by simp; omega
noncomputable def cone:Code:=bodyOf Tryz.f64
noncomputable def Gone:Cfg:=⟨Tryz.prog,mkEnv [(74,sp_Loose),(75,sp_QDecode),(98,sp_hp),(103,sp_wrun),(104,sp_repa),(105,sp_says)],mkEnvR [],92,[],[([1,0,1,1,1,1],⟨[0,1,7,8,46],[]⟩),([1,0,1,0,1,1,1,1,1,1,1,1],⟨[0,1,7,8,9,10,66,68],[]⟩),([1,1,1,0,1,0,1,1,1,1,1,1,1,1],⟨[0,1,7,8,9,10,73],[]⟩),([1,1,1,1,1,1,1,1,1],⟨[0,7,8,9,10],[]⟩)],[]⟩
noncomputable def Bone_1 (F:Nat) (s:List UInt8) (i vi1 vi2:Int) (vc3:Bool):Option Ans:=runB Gone cone (kP Tryz.prog Tryz.f64.results.toList) F [] [1,1,1,1,0,1] [(0,.p (.str s)),(1,.p (.int .i64 i)),(7,.p (.int .i64 vi1)),(8,.p (.int .i64 vi2)),(46,.p (.bool vc3))] []
noncomputable def Bone_2 (F:Nat) (s:List UInt8) (i vi1 vi2 vi4:Int) (vs5:List UInt8) (vi6:Int) (vc7:Bool):Option Ans:=runB Gone cone (kP Tryz.prog Tryz.f64.results.toList) F [] [1,1,1,1,1,1,1,1,0,1,0,1] [(0,.p (.str s)),(1,.p (.int .i64 i)),(7,.p (.int .i64 vi1)),(8,.p (.int .i64 vi2)),(9,.p (.int .i64 vi4)),(10,.p (.str vs5)),(66,.p (.int .u8 vi6)),(68,.p (.bool vc7))] []
noncomputable def Bone_3 (F:Nat) (s:List UInt8) (vi1 vi2 vi4:Int) (vs8:List UInt8):Option Ans:=runB Gone cone (kP Tryz.prog Tryz.f64.results.toList) F [] [1,1,1,1,1,1,1,1,1] [(0,.p (.str s)),(7,.p (.int .i64 vi1)),(8,.p (.int .i64 vi2)),(9,.p (.int .i64 vi4)),(10,.p (.str vs8))] []
noncomputable def Bone_4 (F:Nat) (s:List UInt8) (i vi1 vi2 vi4:Int) (vs5:List UInt8) (vc9:Bool):Option Ans:=runB Gone cone (kP Tryz.prog Tryz.f64.results.toList) F [] [1,1,1,1,1,1,1,1,0,1,0,1,1,1] [(0,.p (.str s)),(1,.p (.int .i64 i)),(7,.p (.int .i64 vi1)),(8,.p (.int .i64 vi2)),(9,.p (.int .i64 vi4)),(10,.p (.str vs5)),(73,.p (.bool vc9))] []
noncomputable def Fone (F:Nat) (s:List UInt8) (i:Int):Option Ans:=runF Gone Tryz.f64 F [.p (.str s),.p (.int .i64 i)]
theorem Bone_1_eq (F:Nat) (s:List UInt8) (i vi1 vi2:Int) (vc3:Bool):Bone_1 F s i vi1 vi2 vc3=cond (vc3) (some (.tup [.p (.str ([]:List UInt8)),.p (.int .i64 i),.p (.bool false)],[])) (need (i64ok (vi2+(3:Int))) (need (wposok s (vi2+(3:Int))) (need (0<=(runS s (vi2+(3:Int)))/\(runS s (vi2+(3:Int)))<=(s.length:Int)) (cond (!(hasP (s.drop (runS s (vi2+(3:Int))).toNat) ([63,61]:List UInt8))) (some (.tup [.p (.str ([]:List UInt8)),.p (.int .i64 i),.p (.bool false)],[])) (need (i64ok (vi2+(3:Int))) (need (0<=(vi2+(3:Int))/\(vi2+(3:Int))<=(runS s (vi2+(3:Int)))/\(runS s (vi2+(3:Int)))<=(s.length:Int)) (need (i64ok (vi2+(1:Int))) (need (0<=(vi2+(1:Int))/\(vi2+(1:Int)) < (s.length:Int)) (cond (((s.getD (vi2+(1:Int)).toNat 0).toNat:Int)==(66:Int)) (Bone_2 F s i vi1 vi2 (runS s (vi2+(3:Int))) ((s.take (runS s (vi2+(3:Int))).toNat).drop (vi2+(3:Int)).toNat) ((s.getD (vi2+(1:Int)).toNat 0).toNat:Int) (((s.getD (vi2+(1:Int)).toNat 0).toNat:Int)==(66:Int))) (Bone_2 F s i vi1 vi2 (runS s (vi2+(3:Int))) ((s.take (runS s (vi2+(3:Int))).toNat).drop (vi2+(3:Int)).toNat) ((s.getD (vi2+(1:Int)).toNat 0).toNat:Int) (((s.getD (vi2+(1:Int)).toNat 0).toNat:Int)==(98:Int)))))))))))):=by kernel_rfl
theorem Bone_2_eq (F:Nat) (s:List UInt8) (i vi1 vi2 vi4:Int) (vs5:List UInt8) (vi6:Int) (vc7:Bool):Bone_2 F s i vi1 vi2 vi4 vs5 vi6 vc7=cond (vc7) (need (vs5.length<=1000000) (Bone_3 F s vi1 vi2 vi4 (looseB vs5))) (cond (vi6==(81:Int)) (Bone_4 F s i vi1 vi2 vi4 vs5 (vi6==(81:Int))) (Bone_4 F s i vi1 vi2 vi4 vs5 (vi6==(113:Int)))):=by kernel_rfl
theorem Bone_3_eq (F:Nat) (s:List UInt8) (vi1 vi2 vi4:Int) (vs8:List UInt8):Bone_3 F s vi1 vi2 vi4 vs8=need (0<=vi1/\vi1<=vi2/\vi2<=(s.length:Int)) (need (((s.take (vi2).toNat).drop (vi1).toNat).length<=1000000/\vs8.length<=1000000) (need (i64ok (vi4+(2:Int))) (some (.tup [.p (.str ((saysS ((s.take (vi2).toNat).drop (vi1).toNat) vs8).1)),.p (.int .i64 (vi4+(2:Int))),.p (.bool ((saysS ((s.take (vi2).toNat).drop (vi1).toNat) vs8).2))],[])))):=by kernel_rfl
theorem Bone_4_eq (F:Nat) (s:List UInt8) (i vi1 vi2 vi4:Int) (vs5:List UInt8) (vc9:Bool):Bone_4 F s i vi1 vi2 vi4 vs5 vc9=cond (vc9) (need (vs5.length<=1000000) (need ((repS vs5 95 32).length<=1000000) (Bone_3 F s vi1 vi2 vi4 (qdec (repS vs5 95 32))))) (some (.tup [.p (.str ([]:List UInt8)),.p (.int .i64 i),.p (.bool false)],[])):=by kernel_rfl
theorem Fone_eq (F:Nat) (s:List UInt8) (i:Int):Fone F s i=need (0<=i/\i<=(s.length:Int)) (cond (!(hasP (s.drop (i).toNat) ([61,63]:List UInt8))) (some (.tup [.p (.str ([]:List UInt8)),.p (.int .i64 i),.p (.bool false)],[])) (need (i64ok (i+(2:Int))) (need (wposok s (i+(2:Int))) (need ((!((runS s (i+(2:Int)))==(i+(2:Int))))=true->i64ok ((s.length:Int) - (runS s (i+(2:Int))))) (need ((!(((runS s (i+(2:Int)))==(i+(2:Int)))||(decide (((s.length:Int) - (runS s (i+(2:Int)))) < (3:Int)))))=true->0<=(runS s (i+(2:Int)))/\(runS s (i+(2:Int))) < (s.length:Int)) (need ((!((((runS s (i+(2:Int)))==(i+(2:Int)))||(decide (((s.length:Int) - (runS s (i+(2:Int)))) < (3:Int))))||(((s.getD (runS s (i+(2:Int))).toNat 0).toNat:Int) != (63:Int))))=true->i64ok ((runS s (i+(2:Int)))+(2:Int))) (need ((!((((runS s (i+(2:Int)))==(i+(2:Int)))||(decide (((s.length:Int) - (runS s (i+(2:Int)))) < (3:Int))))||(((s.getD (runS s (i+(2:Int))).toNat 0).toNat:Int) != (63:Int))))=true->0<=((runS s (i+(2:Int)))+(2:Int))/\((runS s (i+(2:Int)))+(2:Int)) < (s.length:Int)) (Bone_1 F s i (i+(2:Int)) (runS s (i+(2:Int))) (((((runS s (i+(2:Int)))==(i+(2:Int)))||(decide (((s.length:Int) - (runS s (i+(2:Int)))) < (3:Int))))||(((s.getD (runS s (i+(2:Int))).toNat 0).toNat:Int) != (63:Int)))||(((s.getD ((runS s (i+(2:Int)))+(2:Int)).toNat 0).toNat:Int) != (63:Int))))))))))):=
 Eq.trans (show Fone F s i=need (0<=i/\i<=(s.length:Int)) (cond (!(hasP (s.drop (i).toNat) ([61,63]:List UInt8))) (some (.tup [.p (.str ([]:List UInt8)),.p (.int .i64 i),.p (.bool false)],[])) (need (i64ok (i+(2:Int))) (need (wposok s (i+(2:Int))) (need ((!((runS s (i+(2:Int)))==(i+(2:Int))))=true->(!((runS s (i+(2:Int)))==(i+(2:Int))))=true) (need ((!((runS s (i+(2:Int)))==(i+(2:Int))))=true->(!((runS s (i+(2:Int)))==(i+(2:Int))))=true) (need ((!((runS s (i+(2:Int)))==(i+(2:Int))))=true->(!((runS s (i+(2:Int)))==(i+(2:Int))))=true) (need ((!((runS s (i+(2:Int)))==(i+(2:Int))))=true->i64ok ((s.length:Int) - (runS s (i+(2:Int))))) (need ((!((runS s (i+(2:Int)))==(i+(2:Int))))=true->(!((runS s (i+(2:Int)))==(i+(2:Int))))=true) (need (((runS s (i+(2:Int)))==(i+(2:Int)))=false->(!((runS s (i+(2:Int)))==(i+(2:Int))))=true) (need ((!(((runS s (i+(2:Int)))==(i+(2:Int)))||(decide (((s.length:Int) - (runS s (i+(2:Int)))) < (3:Int)))))=true->(!(((runS s (i+(2:Int)))==(i+(2:Int)))||(decide (((s.length:Int) - (runS s (i+(2:Int)))) < (3:Int)))))=true) (need ((!(((runS s (i+(2:Int)))==(i+(2:Int)))||(decide (((s.length:Int) - (runS s (i+(2:Int)))) < (3:Int)))))=true->(!(((runS s (i+(2:Int)))==(i+(2:Int)))||(decide (((s.length:Int) - (runS s (i+(2:Int)))) < (3:Int)))))=true) (need ((!(((runS s (i+(2:Int)))==(i+(2:Int)))||(decide (((s.length:Int) - (runS s (i+(2:Int)))) < (3:Int)))))=true->0<=(runS s (i+(2:Int)))/\(runS s (i+(2:Int))) < (s.length:Int)) (need ((!(((runS s (i+(2:Int)))==(i+(2:Int)))||(decide (((s.length:Int) - (runS s (i+(2:Int)))) < (3:Int)))))=true->(!(((runS s (i+(2:Int)))==(i+(2:Int)))||(decide (((s.length:Int) - (runS s (i+(2:Int)))) < (3:Int)))))=true) (need ((((runS s (i+(2:Int)))==(i+(2:Int)))||(decide (((s.length:Int) - (runS s (i+(2:Int)))) < (3:Int))))=false->(!(((runS s (i+(2:Int)))==(i+(2:Int)))||(decide (((s.length:Int) - (runS s (i+(2:Int)))) < (3:Int)))))=true) (need ((!((((runS s (i+(2:Int)))==(i+(2:Int)))||(decide (((s.length:Int) - (runS s (i+(2:Int)))) < (3:Int))))||(((s.getD (runS s (i+(2:Int))).toNat 0).toNat:Int) != (63:Int))))=true->(!((((runS s (i+(2:Int)))==(i+(2:Int)))||(decide (((s.length:Int) - (runS s (i+(2:Int)))) < (3:Int))))||(((s.getD (runS s (i+(2:Int))).toNat 0).toNat:Int) != (63:Int))))=true) (need ((!((((runS s (i+(2:Int)))==(i+(2:Int)))||(decide (((s.length:Int) - (runS s (i+(2:Int)))) < (3:Int))))||(((s.getD (runS s (i+(2:Int))).toNat 0).toNat:Int) != (63:Int))))=true->i64ok ((runS s (i+(2:Int)))+(2:Int))) (need ((!((((runS s (i+(2:Int)))==(i+(2:Int)))||(decide (((s.length:Int) - (runS s (i+(2:Int)))) < (3:Int))))||(((s.getD (runS s (i+(2:Int))).toNat 0).toNat:Int) != (63:Int))))=true->(!((((runS s (i+(2:Int)))==(i+(2:Int)))||(decide (((s.length:Int) - (runS s (i+(2:Int)))) < (3:Int))))||(((s.getD (runS s (i+(2:Int))).toNat 0).toNat:Int) != (63:Int))))=true) (need ((!((((runS s (i+(2:Int)))==(i+(2:Int)))||(decide (((s.length:Int) - (runS s (i+(2:Int)))) < (3:Int))))||(((s.getD (runS s (i+(2:Int))).toNat 0).toNat:Int) != (63:Int))))=true->(!((((runS s (i+(2:Int)))==(i+(2:Int)))||(decide (((s.length:Int) - (runS s (i+(2:Int)))) < (3:Int))))||(((s.getD (runS s (i+(2:Int))).toNat 0).toNat:Int) != (63:Int))))=true) (need ((!((((runS s (i+(2:Int)))==(i+(2:Int)))||(decide (((s.length:Int) - (runS s (i+(2:Int)))) < (3:Int))))||(((s.getD (runS s (i+(2:Int))).toNat 0).toNat:Int) != (63:Int))))=true->0<=((runS s (i+(2:Int)))+(2:Int))/\((runS s (i+(2:Int)))+(2:Int)) < (s.length:Int)) (need ((!((((runS s (i+(2:Int)))==(i+(2:Int)))||(decide (((s.length:Int) - (runS s (i+(2:Int)))) < (3:Int))))||(((s.getD (runS s (i+(2:Int))).toNat 0).toNat:Int) != (63:Int))))=true->(!((((runS s (i+(2:Int)))==(i+(2:Int)))||(decide (((s.length:Int) - (runS s (i+(2:Int)))) < (3:Int))))||(((s.getD (runS s (i+(2:Int))).toNat 0).toNat:Int) != (63:Int))))=true) (need (((((runS s (i+(2:Int)))==(i+(2:Int)))||(decide (((s.length:Int) - (runS s (i+(2:Int)))) < (3:Int))))||(((s.getD (runS s (i+(2:Int))).toNat 0).toNat:Int) != (63:Int)))=false->(!((((runS s (i+(2:Int)))==(i+(2:Int)))||(decide (((s.length:Int) - (runS s (i+(2:Int)))) < (3:Int))))||(((s.getD (runS s (i+(2:Int))).toNat 0).toNat:Int) != (63:Int))))=true) (Bone_1 F s i (i+(2:Int)) (runS s (i+(2:Int))) (((((runS s (i+(2:Int)))==(i+(2:Int)))||(decide (((s.length:Int) - (runS s (i+(2:Int)))) < (3:Int))))||(((s.getD (runS s (i+(2:Int))).toNat 0).toNat:Int) != (63:Int)))||(((s.getD ((runS s (i+(2:Int)))+(2:Int)).toNat 0).toNat:Int) != (63:Int))))))))))))))))))))))))) by kernel_rfl) (need_congr (cond_congr (rfl) (need_congr (need_congr (need_strike (show (!((runS s (i+(2:Int)))==(i+(2:Int))))=true->(!((runS s (i+(2:Int)))==(i+(2:Int))))=true from (fun q0=>q0)) (need_strike (show (!((runS s (i+(2:Int)))==(i+(2:Int))))=true->(!((runS s (i+(2:Int)))==(i+(2:Int))))=true from (fun q0=>q0)) (need_strike (show (!((runS s (i+(2:Int)))==(i+(2:Int))))=true->(!((runS s (i+(2:Int)))==(i+(2:Int))))=true from (fun q0=>q0)) (need_congr (need_strike (show (!((runS s (i+(2:Int)))==(i+(2:Int))))=true->(!((runS s (i+(2:Int)))==(i+(2:Int))))=true from (fun q0=>q0)) (need_strike (show ((runS s (i+(2:Int)))==(i+(2:Int)))=false->(!((runS s (i+(2:Int)))==(i+(2:Int))))=true from (fun q0=>(not_mk q0))) (need_strike (show (!(((runS s (i+(2:Int)))==(i+(2:Int)))||(decide (((s.length:Int) - (runS s (i+(2:Int)))) < (3:Int)))))=true->(!(((runS s (i+(2:Int)))==(i+(2:Int)))||(decide (((s.length:Int) - (runS s (i+(2:Int)))) < (3:Int)))))=true from (fun q0=>q0)) (need_strike (show (!(((runS s (i+(2:Int)))==(i+(2:Int)))||(decide (((s.length:Int) - (runS s (i+(2:Int)))) < (3:Int)))))=true->(!(((runS s (i+(2:Int)))==(i+(2:Int)))||(decide (((s.length:Int) - (runS s (i+(2:Int)))) < (3:Int)))))=true from (fun q0=>q0)) (need_congr (need_strike (show (!(((runS s (i+(2:Int)))==(i+(2:Int)))||(decide (((s.length:Int) - (runS s (i+(2:Int)))) < (3:Int)))))=true->(!(((runS s (i+(2:Int)))==(i+(2:Int)))||(decide (((s.length:Int) - (runS s (i+(2:Int)))) < (3:Int)))))=true from (fun q0=>q0)) (need_strike (show (((runS s (i+(2:Int)))==(i+(2:Int)))||(decide (((s.length:Int) - (runS s (i+(2:Int)))) < (3:Int))))=false->(!(((runS s (i+(2:Int)))==(i+(2:Int)))||(decide (((s.length:Int) - (runS s (i+(2:Int)))) < (3:Int)))))=true from (fun q0=>(not_mk q0))) (need_strike (show (!((((runS s (i+(2:Int)))==(i+(2:Int)))||(decide (((s.length:Int) - (runS s (i+(2:Int)))) < (3:Int))))||(((s.getD (runS s (i+(2:Int))).toNat 0).toNat:Int) != (63:Int))))=true->(!((((runS s (i+(2:Int)))==(i+(2:Int)))||(decide (((s.length:Int) - (runS s (i+(2:Int)))) < (3:Int))))||(((s.getD (runS s (i+(2:Int))).toNat 0).toNat:Int) != (63:Int))))=true from (fun q0=>q0)) (need_congr (need_strike (show (!((((runS s (i+(2:Int)))==(i+(2:Int)))||(decide (((s.length:Int) - (runS s (i+(2:Int)))) < (3:Int))))||(((s.getD (runS s (i+(2:Int))).toNat 0).toNat:Int) != (63:Int))))=true->(!((((runS s (i+(2:Int)))==(i+(2:Int)))||(decide (((s.length:Int) - (runS s (i+(2:Int)))) < (3:Int))))||(((s.getD (runS s (i+(2:Int))).toNat 0).toNat:Int) != (63:Int))))=true from (fun q0=>q0)) (need_strike (show (!((((runS s (i+(2:Int)))==(i+(2:Int)))||(decide (((s.length:Int) - (runS s (i+(2:Int)))) < (3:Int))))||(((s.getD (runS s (i+(2:Int))).toNat 0).toNat:Int) != (63:Int))))=true->(!((((runS s (i+(2:Int)))==(i+(2:Int)))||(decide (((s.length:Int) - (runS s (i+(2:Int)))) < (3:Int))))||(((s.getD (runS s (i+(2:Int))).toNat 0).toNat:Int) != (63:Int))))=true from (fun q0=>q0)) (need_congr (need_strike (show (!((((runS s (i+(2:Int)))==(i+(2:Int)))||(decide (((s.length:Int) - (runS s (i+(2:Int)))) < (3:Int))))||(((s.getD (runS s (i+(2:Int))).toNat 0).toNat:Int) != (63:Int))))=true->(!((((runS s (i+(2:Int)))==(i+(2:Int)))||(decide (((s.length:Int) - (runS s (i+(2:Int)))) < (3:Int))))||(((s.getD (runS s (i+(2:Int))).toNat 0).toNat:Int) != (63:Int))))=true from (fun q0=>q0)) (need_strike (show ((((runS s (i+(2:Int)))==(i+(2:Int)))||(decide (((s.length:Int) - (runS s (i+(2:Int)))) < (3:Int))))||(((s.getD (runS s (i+(2:Int))).toNat 0).toNat:Int) != (63:Int)))=false->(!((((runS s (i+(2:Int)))==(i+(2:Int)))||(decide (((s.length:Int) - (runS s (i+(2:Int)))) < (3:Int))))||(((s.getD (runS s (i+(2:Int))).toNat 0).toNat:Int) != (63:Int))))=true from (fun q0=>(not_mk q0))) (rfl)))))))))))))))))))))))
theorem fn_one (F:Nat) (s:List UInt8) (i:Int) (r:AV) (h:(∃ M vs,ARels γ0 M [.p (.str s),.p (.int .i64 i)] vs)->Fone F s i=some (r,[])):FnP Tryz.prog 64 [.p (.str s),.p (.int .i64 i)] r:=
 FnP_run Gone F rfl (EnvOk_mk (l:=[(74,sp_Loose),(75,sp_QDecode),(98,sp_hp),(103,sp_wrun),(104,sp_repa),(105,sp_says)]) ⟨ok_Loose.any,ok_QDecode.any,ok_hp.any,ok_wrun.any,ok_repa.any,ok_says.any,trivial⟩) (EnvROk_mk (l:=[]) trivial) (Checked.mixed Tryz.checked) (fn:=Tryz.f64) (by kernel_rfl) (by kernel_rfl) rfl h
theorem one_eq (s:List UInt8) (i:Int) (h:wposok s i):Fone 0 s i=some (oneT (oneS s i),[]):=by
 obtain ⟨h0,h1,h2⟩:=h
 obtain ⟨i,rfl⟩:=Int.eq_ofNat_of_zero_le h0
 have hi:i<=s.length:=by omega
 rw [Fone_eq]
 refine need_mk (by first | omega | (unfold i64ok; omega) | (simp only [List.length_cons,List.length_nil]; omega) | (simp; omega) | simp) ?_
 rw [oneS,parse]
 rw [show ((i:Int)).toNat=i from rfl]
 by_cases c1:hasP (s.drop i) sOpen=false
 .refine cond_t (by rw [c1]; rfl) ?_
  rw [if_pos c1]; rfl
 .have c1':hasP (s.drop i) sOpen=true:=by simpa using c1
  refine cond_f (by rw [c1']; rfl) ?_
  rw [if_neg c1]
  have hlen:i+2<=s.length:=by have:=hasP2 c1'; simp at this; omega
  refine need_mk (by first | omega | (unfold i64ok; omega) | (simp only [List.length_cons,List.length_nil]; omega) | (simp; omega) | simp) ?_
  have e2:(i:Int)+2=((i+2:Nat):Int):=by omega
  rw [e2]
  refine need_mk ⟨by omega,by omega,h2⟩ ?_
  have hr:=runN_le (s:=s) (i:=i+2) hlen
  rw [show runS s ((i+2:Nat):Int)=(runN s (i+2):Int) from rfl]
  generalize runN s (i+2)=a at hr ⊢
  rw [show ((a:Int)).toNat=a from rfl]
  refine need_mk (fun _=>by unfold i64ok; omega) ?_
  have ea2:((a:Int)+2).toNat=a+2:=by omega
  rw [ea2]
  refine need_mk (fun h=>by simp at h; omega) (need_mk (fun h=>by unfold i64ok; omega) (need_mk (fun h=>by simp at h; omega) ?_))
  have hB:((((a:Int)==((i+2:Nat):Int))||(decide ((s.length:Int) - (a:Int) < (3:Int))))||(((s.getD a 0).toNat:Int) != (63:Int))||(((s.getD (a+2) 0).toNat:Int) != (63:Int)))=
   decide (a=i+2\/s.length < a+3\/s.getD a 0≠63\/s.getD (a+2) 0≠63):=by
   rw [show (63:Int)=((63:UInt8).toNat:Int) from rfl,u8ne,u8ne,Bool.eq_iff_iff]
   simp only [Bool.or_eq_true,decide_eq_true_eq,beq_iff_eq,bne_iff_ne]
   constructor
   .rintro (((h | h) | h) | h)
    .exact .inl (by omega)
    .exact .inr (.inl (by omega))
    .exact .inr (.inr (.inl h))
    .exact .inr (.inr (.inr h))
   .rintro (h | h | h | h)
    .exact .inl (.inl (.inl (by omega)))
    .exact .inl (.inl (.inr (by omega)))
    .exact .inl (.inr h)
    .exact .inr h
  rw [hB,Bone_1_eq]
  by_cases c2:a=i+2\/s.length < a+3\/s.getD a 0≠63\/s.getD (a+2) 0≠63
  .refine cond_t (decide_eq_true c2) ?_
   rw [if_pos c2]; rfl
  .refine cond_f (decide_eq_false c2) ?_
   rw [if_neg c2]
   have ha3:a+3<=s.length:=by
    rcases Nat.lt_or_ge s.length (a+3) with h | h
    .exact absurd (.inr (.inl h)) c2
    .exact h
   have e3:(a:Int)+3=((a+3:Nat):Int):=by omega
   have e1:((a:Int)+1).toNat=a+1:=by omega
   refine need_mk (by first | omega | (unfold i64ok; omega) | (simp only [List.length_cons,List.length_nil]; omega) | (simp; omega) | simp) ?_
   rw [e3,e1]
   refine need_mk ⟨by omega,by omega,h2⟩ ?_
   have hb:=runN_le (s:=s) (i:=a+3) ha3
   rw [show runS s ((a+3:Nat):Int)=(runN s (a+3):Int) from rfl]
   generalize runN s (a+3)=b at hb ⊢
   rw [show ((b:Int)).toNat=b from rfl,show (((a+3:Nat):Int)).toNat=a+3 from rfl]
   refine need_mk (by first | omega | (unfold i64ok; omega) | (simp only [List.length_cons,List.length_nil]; omega) | (simp; omega) | simp) ?_
   by_cases c3:hasP (s.drop b) sShut=false
   .refine cond_t (by rw [c3]; rfl) ?_
    rw [if_pos c3]; rfl
   .have c3':hasP (s.drop b) sShut=true:=by simpa using c3
    refine cond_f (by rw [c3']; rfl) ?_
    rw [if_neg c3]
    have hb2:b+2<=s.length:=by have:=hasP2 c3'; simp at this; omega
    refine need_mk (by first | omega | (unfold i64ok; omega) | (simp only [List.length_cons,List.length_nil]; omega) | (simp; omega) | simp) ?_
    refine need_mk (by first | omega | (unfold i64ok; omega) | (simp only [List.length_cons,List.length_nil]; omega) | (simp; omega) | simp) ?_
    refine need_mk (by first | omega | (unfold i64ok; omega) | (simp only [List.length_cons,List.length_nil]; omega) | (simp; omega) | simp) ?_
    refine need_mk (by first | omega | (unfold i64ok; omega) | (simp only [List.length_cons,List.length_nil]; omega) | (simp; omega) | simp) ?_
    dsimp only
    have htl:=mid_len s (a+3) b
    generalize s.getD (a+1) 0=k
    generalize (s.take b).drop (a+3)=t at htl ⊢
    have fin:∀ u:List UInt8,u.length<=1000000->Bone_3 0 s ((i+2:Nat):Int) (a:Int) (b:Int) u=
     some (oneT ((saysS ((s.take a).drop (i+2)) u).1,((b+2:Nat):Int),(saysS ((s.take a).drop (i+2)) u).2),[]):=fun u hu=>by
     have hm:=mid_len s (i+2) a
     rw [Bone_3_eq,show (((i+2:Nat):Int)).toNat=i+2 from rfl,show ((a:Int)).toNat=a from rfl]
     refine need_mk (by omega) (need_mk ⟨by omega,hu⟩ (need_mk (by unfold i64ok; omega) ?_))
     rfl
    have hl:=looseG_len t 0 0
    have hq:=qdec_len _ (repS t 95 32) (Nat.le_refl _)
    rw [rep_len] at hq
    have two:∀ B,B=decide (k=66\/k=98)->Bone_2 0 s (i:Int) ((i+2:Nat):Int) (a:Int) (b:Int) t (k.toNat:Int) B=some (oneT (match bodyS k t with
     | none=>([],(i:Int),false)
     | some u=>((saysS ((s.take a).drop (i+2)) u).1,((b+2:Nat):Int),(saysS ((s.take a).drop (i+2)) u).2)),[]):=by
     intro B hB
     rw [hB,Bone_2_eq,bodyS]
     by_cases k1:k=66\/k=98
     .refine cond_t (decide_eq_true k1) (need_mk (by omega) ?_)
      rw [if_pos k1]
      exact fin _ (by unfold looseB; omega)
     .refine cond_f (decide_eq_false k1) ?_
      rw [if_neg k1]
      have four:∀ B,B=decide (k=81\/k=113)->Bone_4 0 s (i:Int) ((i+2:Nat):Int) (a:Int) (b:Int) t B=some (oneT (match (if k=81\/k=113 then some (qdec (repS t 95 32)) else none) with
       | none=>([],(i:Int),false)
       | some u=>((saysS ((s.take a).drop (i+2)) u).1,((b+2:Nat):Int),(saysS ((s.take a).drop (i+2)) u).2)),[]):=by
       intro B hB
       rw [hB,Bone_4_eq]
       by_cases k2:k=81\/k=113
       .refine cond_t (decide_eq_true k2) (need_mk (by omega) (need_mk (by rw [rep_len]; omega) ?_))
        rw [if_pos k2]
        exact fin _ (by omega)
       .refine cond_f (decide_eq_false k2) ?_
        rw [if_neg k2]; rfl
      rw [show (81:Int)=((81:UInt8).toNat:Int) from rfl,show (113:Int)=((113:UInt8).toNat:Int) from rfl,u8n,u8n]
      by_cases k3:k=81
      .refine cond_t (by simpa using k3) (four _ (by simp [k3]))
      .refine cond_f (by simpa using k3) (four _ (by rw [Bool.eq_iff_iff]; simp [k3]))
    rw [show (66:Int)=((66:UInt8).toNat:Int) from rfl,show (98:Int)=((98:UInt8).toNat:Int) from rfl,u8n,u8n]
    by_cases k3:k=66
    .refine cond_t (by simpa using k3) (two _ (by simp [k3]))
    .refine cond_f (by simpa using k3) (two _ (by rw [Bool.eq_iff_iff]; simp [k3]))
def sp_one:List AV->Option (AV×Option Prop)
 | [.p (.str s),.p (.int .i64 i)]=>some (.tup [.p (.str ((oneS s i).1)),.p (.int .i64 ((oneS s i).2.1)),.p (.bool ((oneS s i).2.2))],some (wposok s i))
 | _=>none
theorem ok_one:SpecOk Tryz.prog 64 sp_one:=by
 intro zs r ok he hok
 unfold sp_one at he
 split at he
 .cases he; exact ⟨by kernel_rfl,fn_one 0 _ _ _ fun hx=>one_eq _ _ hok⟩
 .cases he
end Go.Proofs.YtoanepondbagcaaGreatDoor
