/-
  Lifted functions, and facts about them.
-/
import Derived.Test.YtoanepondbagcaaGreatDoorRows
import Derived.Test.YtoanepondbagcaaGreatDoorAmC
import Derived.Test.YtoanepondbagcaaGreatDoorC01
import Derived.Lib.Bytealg
import Derived.WalkKit
import Derived.Lib.Walk
import Derived.Lib.Builder
import Derived.Shelf.RegionOpenPlain
import Derived.Lib.UnsafeStr
import Derived.Lib.MakeNoZero
import Derived.Laws.IdiomCopy
namespace Go.Proofs.YtoanepondbagcaaGreatDoor
open Go Go.Am
set_option linter.unusedVariables false
theorem szN_pos (c:UInt8):1<=szN c/\szN c<=4:=by unfold szN; split <;> (try split) <;> (try split) <;> omega
theorem getS_next {s:List UInt8} {i:Nat} (h:¬ (getS s (i:Int)).1 < 0):∃ n:Nat,(getS s (i:Int)).2=(n:Int)/\i < n/\n<=s.length:=by
 unfold getS at *
 by_cases hb:((i:Int) < 0\/(i:Int)>=s.length)
 .rw [if_pos hb] at h; exact absurd (show (-1:Int) < 0 by decide) h
 .rw [if_neg hb] at *
  rw [show ((i:Int)).toNat=i from rfl] at *
  dsimp only at *
  by_cases hl:szN (s.getD i 0) > s.length - i
  .rw [if_pos hl] at h; exact absurd (show (-1:Int) < 0 by decide) h
  .rw [if_neg hl] at *
   unfold finV at *
   split at h
   .rename_i hp
    rw [if_pos hp]
    have:=szN_pos (s.getD i 0)
    exact ⟨i+szN (s.getD i 0),by simp,by omega,by omega⟩
   .exact absurd (show (-1:Int) < 0 by decide) h
def validF:Nat->List UInt8->Int->Bool
 | 0,_,_=>true
 | f+1,s,i=>if i < s.length then if (getS s i).1 < 0 then false else validF f s (getS s i).2 else true
def validS (s:List UInt8):Bool:=validF (s.length+1) s 0
noncomputable def cuvalid:Code:=bodyOf Tryz.f62
noncomputable def Guvalid:Cfg:=⟨Tryz.prog,mkEnv [(76,sp_uget)],mkEnvR [],19,[],[([0,0,1,1],⟨[0,3],[]⟩)],[]⟩
noncomputable def Buvalid_1 (F f1:Nat) (s:List UInt8) (vi1:Int):Option Ans:=runR Guvalid cuvalid (kP Tryz.prog Tryz.f62.results.toList) F [] [1,1,0,0] f1 [(0,.p (.str s)),(3,.p (.int .i64 vi1))] []
noncomputable def Fuvalid (F:Nat) (s:List UInt8):Option Ans:=runF Guvalid Tryz.f62 F [.p (.str s)]
theorem Buvalid_1_eq (F f1:Nat) (s:List UInt8) (vi1:Int):Buvalid_1 F (f1+1) s vi1=cond (decide (vi1 < (s.length:Int))) (need (posok s vi1) (cond (decide (((getS s vi1).1) < (0:Int))) (some (.p (.bool false),[])) (Buvalid_1 F f1 s ((getS s vi1).2)))) (some (.p (.bool true),[])):=by kernel_rfl
theorem Fuvalid_eq (F:Nat) (s:List UInt8):Fuvalid F s=Buvalid_1 F F s (0:Int):=by kernel_rfl
theorem fn_uvalid (F:Nat) (s:List UInt8) (r:AV) (h:(∃ M vs,ARels γ0 M [.p (.str s)] vs)->Fuvalid F s=some (r,[])):FnP Tryz.prog 62 [.p (.str s)] r:=
 FnP_run Guvalid F rfl (EnvOk_mk (l:=[(76,sp_uget)]) ⟨ok_uget.any,trivial⟩) (EnvROk_mk (l:=[]) trivial) (Checked.mixed Tryz.checked) (fn:=Tryz.f62) (by kernel_rfl) (by kernel_rfl) rfl h
theorem Buvalid_spec (F:Nat) (s:List UInt8) (hs:s.length<=1000000):∀ (f i:Nat),s.length - i < f->i<=s.length->Buvalid_1 F f s (i:Int)=some (.p (.bool (validF f s (i:Int))),[]):=by
 intro f
 induction f with
 | zero=>intro i h; omega
 | succ f ih=>
  intro i hf hi
  rw [Buvalid_1_eq,validF]
  by_cases h1:(i:Int) < s.length
  .refine cond_t (by simpa using h1) (need_mk ⟨by omega,by omega,hs⟩ ?_)
   rw [if_pos h1]
   by_cases h2:(getS s (i:Int)).1 < 0
   .refine cond_t (by simpa using h2) ?_
    rw [if_pos h2]
   .refine cond_f (by simpa using h2) ?_
    rw [if_neg h2]
    obtain ⟨n,e,h3,h4⟩:=getS_next h2
    rw [e]
    exact ih n (by omega) h4
  .refine cond_f (by simpa using h1) ?_
   rw [if_neg h1]
theorem uvalid_eq (s:List UInt8) (hs:s.length<=1000000):Fuvalid (s.length+1) s=some (.p (.bool (validS s)),[]):=by
 rw [Fuvalid_eq]
 exact Buvalid_spec _ s hs (s.length+1) 0 (by omega) (by omega)
def sp_uvalid:List AV->Option (AV×Option Prop)
 | [.p (.str s)]=>some (.p (.bool (validS s)),some (s.length<=1000000))
 | _=>none
theorem ok_uvalid:SpecOk Tryz.prog 62 sp_uvalid:=by
 intro zs r ok he hok
 unfold sp_uvalid at he
 split at he
 .cases he; exact ⟨by kernel_rfl,fn_uvalid (_) _ _ fun hx=>uvalid_eq _ hok⟩
 .cases he
theorem putS_len (v:Int):(putS v).length<=4:=by
 unfold putS
 split
 .simp
 .exact (putN_len _).1
end Go.Proofs.YtoanepondbagcaaGreatDoor
namespace Go.Proofs.YtoanepondbagcaaGreatDoor
open Go Go.Am
set_option linter.unusedVariables false
def bytesS (s:List UInt8):List UInt8:=s.flatMap fun c=>putS (c.toNat:Int)
end Go.Proofs.YtoanepondbagcaaGreatDoor
namespace Go.Proofs.YtoanepondbagcaaGreatDoor
open Go Go.Am
set_option linter.unusedVariables false
noncomputable def cFold:Code:=bodyOf Tryz.f61
noncomputable def GFold:Cfg:=⟨Tryz.prog,mkEnv [],mkEnvR [],32,[],[([0,1,0,1,1],⟨[0,3,10,11],[⟨.slot 3,3,(.barr 5 false [])⟩]⟩),([1,0,1,1,0,0,1,1,0,0,1,0,1,1],⟨[0,3,5,10,11,22],[⟨.slot 3,3,(.barr 5 false [])⟩]⟩),([1,1,1,0,0,1,1,0,0,1,0,1,1],⟨[0,3,5,10,11],[⟨.slot 3,3,(.barr 5 false [])⟩]⟩)],[]⟩
noncomputable def BFold_1 (F f1:Nat) (s:List UInt8) (vi1 vi2:Int) (vb3:List UInt8):Option Ans:=runR GFold cFold (kP Tryz.prog Tryz.f61.results.toList) F [] [1,1,0,1,0] f1 [(0,.p (.str s)),(3,.arr 3),(10,.p (.int .i64 vi1)),(11,.p (.int .i64 vi2))] [(3,.barr 5 true vb3)]
noncomputable def BFold_2 (F f1:Nat) (s:List UInt8) (vi4 vi1 vi2:Int) (vc5:Bool) (vb3:List UInt8):Option Ans:=runB GFold cFold (kP Tryz.prog Tryz.f61.results.toList) F [f1] [1,1,0,1,0,0,1,1,0,0,1,1,0,1] [(0,.p (.str s)),(3,.arr 3),(5,.p (.int .u8 vi4)),(10,.p (.int .i64 vi1)),(11,.p (.int .i64 vi2)),(22,.p (.bool vc5))] [(3,.barr 5 true vb3)]
noncomputable def BFold_3 (F f1:Nat) (s:List UInt8) (vi6 vi1 vi2:Int) (vb3:List UInt8):Option Ans:=runB GFold cFold (kP Tryz.prog Tryz.f61.results.toList) F [f1] [1,1,0,1,0,0,1,1,0,0,1,1,1] [(0,.p (.str s)),(3,.arr 3),(5,.p (.int .u8 vi6)),(10,.p (.int .i64 vi1)),(11,.p (.int .i64 vi2))] [(3,.barr 5 true vb3)]
noncomputable def FFold (F:Nat) (s:List UInt8):Option Ans:=runF GFold Tryz.f61 F [.p (.str s)]
theorem BFold_1_eq (F f1:Nat) (s:List UInt8) (vi1 vi2:Int) (vb3:List UInt8):BFold_1 F (f1+1) s vi1 vi2 vb3=cond (decide (vi2 < vi1)) (need (0<=vi2/\vi2 < (s.length:Int)) (((BFold_2 F f1 s ((s.getD (vi2).toNat 0).toNat:Int) vi1 vi2 ((decide (((s.getD (vi2).toNat 0).toNat:Int)>=(65:Int)))&&(decide (((s.getD (vi2).toNat 0).toNat:Int)<=(90:Int)))) vb3)))) (some (.p (.str vb3),[])):=by
 have h:BFold_1 F (f1+1) s vi1 vi2 vb3=cond (decide (vi2 < vi1)) (need (0<=vi2/\vi2 < (s.length:Int)) (need ((decide (((s.getD (vi2).toNat 0).toNat:Int)>=(65:Int)))=true->(decide (((s.getD (vi2).toNat 0).toNat:Int)>=(65:Int)))=true) (need ((decide (((s.getD (vi2).toNat 0).toNat:Int)>=(65:Int)))=true->(decide (((s.getD (vi2).toNat 0).toNat:Int)>=(65:Int)))=true) (BFold_2 F f1 s ((s.getD (vi2).toNat 0).toNat:Int) vi1 vi2 ((decide (((s.getD (vi2).toNat 0).toNat:Int)>=(65:Int)))&&(decide (((s.getD (vi2).toNat 0).toNat:Int)<=(90:Int)))) vb3)))) (some (.p (.str vb3),[])):=by kernel_rfl
 rw [h,need_pos (show (decide (((s.getD (vi2).toNat 0).toNat:Int)>=(65:Int)))=true->(decide (((s.getD (vi2).toNat 0).toNat:Int)>=(65:Int)))=true from (fun q0=>q0)),need_pos (show (decide (((s.getD (vi2).toNat 0).toNat:Int)>=(65:Int)))=true->(decide (((s.getD (vi2).toNat 0).toNat:Int)>=(65:Int)))=true from (fun q0=>q0))]
theorem BFold_2_eq (F f1:Nat) (s:List UInt8) (vi4 vi1 vi2:Int) (vc5:Bool) (vb3:List UInt8):BFold_2 F f1 s vi4 vi1 vi2 vc5 vb3=cond (vc5) (BFold_3 F f1 s (IntKind.u8.wrap (vi4+(32:Int))) vi1 vi2 vb3) (BFold_3 F f1 s vi4 vi1 vi2 vb3):=by kernel_rfl
theorem BFold_3_eq (F f1:Nat) (s:List UInt8) (vi6 vi1 vi2:Int) (vb3:List UInt8):BFold_3 F f1 s vi6 vi1 vi2 vb3=need ((vb3.length+[UInt8.ofNat (vi6).toNat].length) * 1<=140737488355328) (need (i64ok (vi2+(1:Int))) (BFold_1 F f1 s vi1 (vi2+(1:Int)) (vb3++[UInt8.ofNat (vi6).toNat]))):=by kernel_rfl
theorem FFold_eq (F:Nat) (s:List UInt8):FFold F s=need (0<=(0:Int)/\(0:Int)<=(s.length:Int)/\(1:Int) * (s.length:Int)<=281474976710656/\(s.length:Int)<=9223372036854775807) (BFold_1 F F s (s.length:Int) (0:Int) (List.replicate ((0:Int)).toNat 0)):=by kernel_rfl
theorem fn_Fold (F:Nat) (s:List UInt8) (r:AV) (h:(∃ M vs,ARels γ0 M [.p (.str s)] vs)->FFold F s=some (r,[])):FnP Tryz.prog 61 [.p (.str s)] r:=
 FnP_run GFold F rfl (EnvOk_mk (l:=[]) trivial) (EnvROk_mk (l:=[]) trivial) (Checked.mixed Tryz.checked) (fn:=Tryz.f61) (by kernel_rfl) (by kernel_rfl) rfl h
def lowB (b:UInt8):UInt8:=if 65<=b.toNat/\b.toNat<=90 then b+32 else b
def foldS (s:List UInt8):List UInt8:=s.map lowB
theorem low_up (b:UInt8) (h:65<=b.toNat/\b.toNat<=90):UInt8.ofNat (IntKind.u8.wrap ((b.toNat:Int)+(32:Int))).toNat=lowB b:=by
 have e:((b.toNat:Int)+32)=((b.toNat+32:Nat):Int):=by omega
 rw [e,u8_of,lowB,if_pos h]
 apply UInt8.toNat_inj.1
 rw [UInt8.toNat_ofNat',UInt8.toNat_add]; rfl
theorem low_id (b:UInt8) (h:¬ (65<=b.toNat/\b.toNat<=90)):UInt8.ofNat ((b.toNat:Int)).toNat=lowB b:=by
 rw [lowB,if_neg h,Int.toNat_natCast,UInt8.ofNat_toNat]
theorem up_dec (b:UInt8):((decide ((b.toNat:Int)>=(65:Int)))&&(decide ((b.toNat:Int)<=(90:Int))))=decide (65<=b.toNat/\b.toNat<=90):=by
 rw [<-Bool.decide_and]; exact decide_eq_decide.2 (by omega)
theorem BFold_spec (F:Nat) (s:List UInt8) (hs:s.length<=140737488355328):∀ (r:List UInt8) (f i:Nat) (acc:List UInt8),s.drop i=r->acc.length=i->r.length < f->i<=s.length->
 BFold_1 F f s (s.length:Int) (i:Int) acc=some (.p (.str (acc++r.map lowB)),[]):=by
 intro r
 induction r with
 | nil=>
  intro f i acc hd ha hf hi
  have:i=s.length:=by have:=congrArg List.length hd; simp at this; omega
  cases f with
  | zero=>omega
  | succ f=>
   rw [BFold_1_eq]
   refine cond_f (by first | omega | (unfold i64ok; omega) | (simp only [List.length_cons,List.length_nil]; omega) | (simp; omega) | simp) ?_
   simp
 | cons c r ih=>
  intro f i acc hd ha hf hi
  obtain ⟨h1,h2,h3⟩:=drop_cons hd
  cases f with
  | zero=>omega
  | succ f=>
   rw [BFold_1_eq]
   refine cond_t (by first | omega | (unfold i64ok; omega) | (simp only [List.length_cons,List.length_nil]; omega) | (simp; omega) | simp) ?_
   refine need_mk (by first | omega | (unfold i64ok; omega) | (simp only [List.length_cons,List.length_nil]; omega) | (simp; omega) | simp) ?_
   rw [Int.toNat_natCast,h1,BFold_2_eq,up_dec]
   have e:(i:Int)+1=((i+1:Nat):Int):=by omega
   have step:∀ d,BFold_1 F f s (s.length:Int) ((i:Int)+1) (acc++[d])=some (.p (.str (acc++d::r.map lowB)),[]):=fun d=>by
    rw [e,ih f (i+1) (acc++[d]) h2 (by simp [ha]) (by simp at hf; omega) (by omega)]; simp
   by_cases hc:65<=c.toNat/\c.toNat<=90
   .refine cond_t (by simpa using hc) ?_
    rw [BFold_3_eq]
    refine need_mk (by first | omega | (unfold i64ok; omega) | (simp only [List.length_cons,List.length_nil]; omega) | (simp; omega) | simp) ?_
    refine need_mk (by first | omega | (unfold i64ok; omega) | (simp only [List.length_cons,List.length_nil]; omega) | (simp; omega) | simp) ?_
    rw [low_up c hc,step]; rfl
   .refine cond_f (by simpa using hc) ?_
    rw [BFold_3_eq]
    refine need_mk (by first | omega | (unfold i64ok; omega) | (simp only [List.length_cons,List.length_nil]; omega) | (simp; omega) | simp) ?_
    refine need_mk (by first | omega | (unfold i64ok; omega) | (simp only [List.length_cons,List.length_nil]; omega) | (simp; omega) | simp) ?_
    rw [low_id c hc,step]; rfl
theorem Fold_eq (s:List UInt8) (hs:s.length<=140737488355328):FFold (s.length+1) s=some (.p (.str (foldS s)),[]):=by
 rw [FFold_eq]
 refine need_mk (by first | omega | (unfold i64ok; omega) | (simp only [List.length_cons,List.length_nil]; omega) | (simp; omega) | simp) ?_
 exact BFold_spec _ s hs s (s.length+1) 0 [] rfl rfl (by omega) (by omega)
def sp_Fold:List AV->Option (AV×Option Prop)
 | [.p (.str s)]=>some (.p (.str (foldS s)),some (s.length<=140737488355328))
 | _=>none
theorem ok_Fold:SpecOk Tryz.prog 61 sp_Fold:=by
 intro zs r ok he hok
 unfold sp_Fold at he
 split at he
 .cases he; exact ⟨by kernel_rfl,fn_Fold (_) _ _ fun hx=>Fold_eq _ hok⟩
 .cases he
end Go.Proofs.YtoanepondbagcaaGreatDoor
namespace Go.Proofs.YtoanepondbagcaaGreatDoor
open Go Go.Am
set_option linter.unusedVariables false
def ixS (s:List UInt8) (c:Int):Int:=Lib.indexByte s c.toNat.toUInt8
def sp_extib:List AV->Option (AV×Option Prop)
 | [.p (.str s),.p (.int .u8 c)]=>some (.p (.int .i64 (ixS s c)),none)
 | _=>none
theorem indexByte_lt (l:List UInt8) (c:UInt8):Lib.indexByte l c < l.length\/Lib.indexByte l c=-1:=by
 induction l with
 | nil=>right; rfl
 | cons b l ih=>
  unfold Lib.indexByte
  split
  .left; simp
  .split
   .right; rfl
   .left; rename_i h1 h2; simp at h2; simp; omega
theorem ok_extib:SpecExt Tryz.prog 145 sp_extib:=by
 intro zs r ok h hok M w vs hM hvs
 unfold sp_extib at h
 split at h
 .rename_i s c
  cases h
  cases hvs with
  | cons h1 h2=>cases h2 with
   | cons h2 h3=>
    cases h3
    cases h1 with | p _ _ h1=>
    cases h2 with | p _ _ h2=>
    cases h1 with | str _ hs=>
    cases h2 with | int _ _ hc=>
    refine ⟨.int .i64 (ixS s c),?_,.p _ _ (.int _ _ ?_)⟩
    .rw [run_callFunc_extern (fn:=Tryz.f145) (e:=Extern.BytealgIndexByte.indexByte) (by kernel_rfl) (by kernel_rfl) (by kernel_rfl) (by kernel_rfl) (by kernel_rfl)]
     rw [Lib.run_indexByteString]; rfl
    .have h1:=Lib.indexByte_ge s c.toNat.toUInt8
     have h2:=indexByte_lt s c.toNat.toUInt8
     exact has_i64 (by unfold maxLen at hs; unfold i64ok ixS; omega)
 .cases h
end Go.Proofs.YtoanepondbagcaaGreatDoor
namespace Go.Proofs.YtoanepondbagcaaGreatDoor
open Go Go.Am
set_option linter.unusedVariables false
def Fixbl (fuel:Nat) (s:List UInt8) (c:Int):Option Int:=some (ixS s c)
noncomputable def cixbl:Code:=bodyOf Tryz.f124
def envixbl:Env:=mkEnv [(145,sp_extib)]
theorem envixbl_ok:EnvOk Tryz.prog envixbl:=EnvOk_mk ⟨ok_extib.any,trivial⟩
theorem Tixbl (fuel:Nat) (s:List UInt8) (c res:Int) (h:Fixbl fuel s c=some res) (C:Ctx) (hC:CtxOk C 8 []):
 T Tryz.prog C (at_ cixbl []) (mkS [(0,.p (.str s)),(1,.p (.int .u8 c))] []) (Qend Tryz.prog C Tryz.f124.results.toList (.p (.int .i64 res))):=by
 have henv:=envixbl_ok
 unfold Fixbl at h
 refine T_seqp (p:=[]) (by kernel_rfl) ?_
 refine T_reg henv hC [] [(0,.p (.str s)),(1,.p (.int .u8 c))] [] [] (by kernel_rfl) (by kernel_rfl) trivial (fun s1 hs1=>?_)
 refine (T.weaken ?_ hs1:T Tryz.prog C (at_ cixbl [1]) _ _)
 refine T_seqp (p:=[1]) (by kernel_rfl) ?_
 refine T_reg henv hC [] [(4,.p (.int .i64 (ixS s c)))] [] [] (by kernel_rfl) (by kernel_rfl) trivial (fun s1 hs1=>?_)
 refine (T.weaken ?_ hs1:T Tryz.prog C (at_ cixbl [1,1]) _ _)
 refine T_retp (p:=[1,1]) (by kernel_rfl) ?_
 have h:=Option.some.inj h; subst h
 exact ⟨mkS [(4,.p (.int .i64 (ixS s c)))] [],(Sub.refl _),by kernel_rfl⟩
theorem fn_ixbl (fuel:Nat) (s:List UInt8) (c res:Int) (h:(∃ M vs,ARels γ0 M [.p (.str s),.p (.int .u8 c)] vs)->Fixbl fuel s c=some res):FnP Tryz.prog 124 [.p (.str s),.p (.int .u8 c)] (.p (.int .i64 res)):=
 FnP_lift (fn:=Tryz.f124) (by kernel_rfl) (by kernel_rfl) fun M vs hvs C hC0=>have hC:CtxOk C 8 []:=⟨hC0.nt.trans (by kernel_rfl),hC0.fx⟩; T.weaken (Tixbl fuel s c res (h ⟨M,vs,hvs⟩) C hC) (sinit_sub hC (by kernel_rfl) (by kernel_rfl))
def sp_ixbl:List AV->Option (AV×Option Prop):=sp_extib
theorem ok_ixbl:SpecOk Tryz.prog 124 sp_ixbl:=by
 intro zs r ok h hok
 unfold sp_ixbl sp_extib at h
 split at h
 .cases h; exact ⟨by kernel_rfl,fn_ixbl 0 _ _ _ fun _=>rfl⟩
 .cases h
end Go.Proofs.YtoanepondbagcaaGreatDoor
namespace Go.Proofs.YtoanepondbagcaaGreatDoor
open Go Go.Am
set_option linter.unusedVariables false
theorem u8c (c:UInt8):((c.toNat:Int)).toNat.toUInt8=c:=by simp
noncomputable def Gixl:Cfg:=⟨Tryz.prog,mkEnv [(124,sp_ixbl)],mkEnvR [],143,[],[],[]⟩
noncomputable def Fixl (F:Nat) (s:List UInt8) (c:UInt8):Option Ans:=runF Gixl Tryz.f126 F [.p (.str s),.p (.str [c])]
theorem Fixl_eq (F:Nat) (s:List UInt8) (c:UInt8):Fixl F s c=(((cond (false||([c]==s)) (some (.p (.int .i64 (0:Int)),[])) (need (0<=(0:Int)/\(0:Int) < ([c].length:Int)) (some (.p (.int .i64 (ixS s (([c].getD ((0:Int)).toNat 0).toNat:Int))),[])))))):=by
 have h:Fixl F s c=need ((!false)=true->(!false)=true) (need ((!false)=true->(!false)=true) (need (false=false->(!false)=true) (cond (false||([c]==s)) (some (.p (.int .i64 (0:Int)),[])) (need (0<=(0:Int)/\(0:Int) < ([c].length:Int)) (some (.p (.int .i64 (ixS s (([c].getD ((0:Int)).toNat 0).toNat:Int))),[])))))):=by kernel_rfl
 rw [h,need_pos (show false=false->(!false)=true from (fun q0=>(not_mk q0))),need_pos (show (!false)=true->(!false)=true from (fun q0=>q0)),need_pos (show (!false)=true->(!false)=true from (fun q0=>q0))]
theorem fn_ixl (F:Nat) (s:List UInt8) (c:UInt8) (r:AV) (h:(∃ M vs,ARels γ0 M [.p (.str s),.p (.str [c])] vs)->Fixl F s c=some (r,[])):FnP Tryz.prog 126 [.p (.str s),.p (.str [c])] r:=
 FnP_run Gixl F rfl (EnvOk_mk (l:=[(124,sp_ixbl)]) ⟨ok_ixbl.any,trivial⟩) (EnvROk_mk (l:=[]) trivial) (Checked.mixed Tryz.checked) (fn:=Tryz.f126) (by kernel_rfl) (by kernel_rfl) rfl h
theorem ixl_eq (s:List UInt8) (c:UInt8):Fixl 0 s c=some (.p (.int .i64 (ixS s (c.toNat:Int))),[]):=by
 rw [Fixl_eq]
 by_cases h:[c]=s
 .refine cond_t (by simp [h]) ?_
  subst h
  have:ixS [c] (c.toNat:Int)=0:=by unfold ixS; rw [u8c]; simp [Lib.indexByte]
  rw [this]
 .refine cond_f (by simp [h]) ?_
  exact need_mk (by simp) rfl
def sp_ixl:List AV->Option (AV×Option Prop)
 | [.p (.str s),.p (.str [c])]=>some (.p (.int .i64 (ixS s (c.toNat:Int))),none)
 | _=>none
theorem ok_ixl:SpecOk Tryz.prog 126 sp_ixl:=by
 intro zs r ok he hok
 unfold sp_ixl at he
 split at he
 .cases he; exact ⟨by kernel_rfl,fn_ixl 0 _ _ _ fun hx=>ixl_eq _ _⟩
 .cases he
end Go.Proofs.YtoanepondbagcaaGreatDoor
namespace Go.Proofs.YtoanepondbagcaaGreatDoor
open Go Go.Am
set_option linter.unusedVariables false
noncomputable def Gix1:Cfg:=⟨Tryz.prog,mkEnv [(126,sp_ixl)],mkEnvR [],8,[],[],[]⟩
noncomputable def Fix1 (F:Nat) (s:List UInt8) (c:UInt8):Option Ans:=runF Gix1 Tryz.f94 F [.p (.str s),.p (.str [c])]
theorem Fix1_eq (F:Nat) (s:List UInt8) (c:UInt8):Fix1 F s c=some (.p (.int .i64 (ixS s (c.toNat:Int))),[]):=by kernel_rfl
theorem fn_ix1 (F:Nat) (s:List UInt8) (c:UInt8) (r:AV) (h:(∃ M vs,ARels γ0 M [.p (.str s),.p (.str [c])] vs)->Fix1 F s c=some (r,[])):FnP Tryz.prog 94 [.p (.str s),.p (.str [c])] r:=
 FnP_run Gix1 F rfl (EnvOk_mk (l:=[(126,sp_ixl)]) ⟨ok_ixl.any,trivial⟩) (EnvROk_mk (l:=[]) trivial) (Checked.mixed Tryz.checked) (fn:=Tryz.f94) (by kernel_rfl) (by kernel_rfl) rfl h
theorem ix1_eq (s:List UInt8) (c:UInt8):Fix1 0 s c=some (.p (.int .i64 (ixS s (c.toNat:Int))),[]):=by rw [Fix1_eq]
def sp_ix1:List AV->Option (AV×Option Prop)
 | [.p (.str s),.p (.str [c])]=>some (.p (.int .i64 (ixS s (c.toNat:Int))),none)
 | _=>none
theorem ok_ix1:SpecOk Tryz.prog 94 sp_ix1:=by
 intro zs r ok he hok
 unfold sp_ix1 at he
 split at he
 .cases he; exact ⟨by kernel_rfl,fn_ix1 0 _ _ _ fun hx=>ix1_eq _ _⟩
 .cases he
end Go.Proofs.YtoanepondbagcaaGreatDoor
namespace Go.Proofs.YtoanepondbagcaaGreatDoor
open Go Go.Am
set_option linter.unusedVariables false
section
open Go.RowKit Go.Lib
set_option maxRecDepth 100000 in
theorem cc_used (b:Nat) (w:World) (h0:w.cell? ⟨b,0,none⟩=some (.pointer (some ⟨b,0,none⟩))):
 Calls Tryz.prog 80 #[.pointer (some ⟨b,0,none⟩)] w fun e w'=>e=.returned (.tuple #[])/\w'=w:=by
 obtain ⟨j,hj,_⟩:=Option.map_eq_some_iff.1 (show (Tryz.prog.info? 61).map (·.size)=some 2 by kernel_rfl)
 go_enter Tryz.func80,Tryz.ntmps80
 go_wp2
 rw [Lib.run_neq_ptr_same w _ Tryz.underlying59 hj]
 go_wp2
 go_end0
 exact ⟨rfl,rfl⟩
set_option maxRecDepth 100000 in
theorem cc_fresh (b:Nat) (w:World) (h0:w.cell? ⟨b,0,none⟩=some (.pointer none)) (hsh:w.shape? b=some (61,2)) (hfz:w.frozen? ⟨b,0,none⟩=false):
 Calls Tryz.prog 80 #[.pointer (some ⟨b,0,none⟩)] w fun e w'=>e=.returned (.tuple #[])/\w'=w.setCell ⟨b,0,none⟩ (.pointer (some ⟨b,0,none⟩)):=by
 obtain ⟨j,hj,hjs⟩:=Option.map_eq_some_iff.1 (show (Tryz.prog.info? 61).map (·.size)=some 2 by kernel_rfl)
 go_enter Tryz.func80,Tryz.ntmps80
 go_wp2
 rw [Lib.run_to_unsafe w ⟨b,0,none⟩ Tryz.underlying59 Tryz.underlying128 hj (by rw [hjs]; decide) hsh (Nat.zero_lt_succ 1)]
 simp only [Result.andThen]
 rw [Oper.upon_value]
 go_wp2
 rw [run_callFunc_extern Tryz.func120 (by kernel_rfl) (by kernel_rfl) (by kernel_rfl) (e:=Extern.AbiNoEscape.same) (by kernel_rfl)]
 rw [Lib.run_noEscape]
 simp only [Result.andThen]
 rw [Oper.upon_value]
 go_wp2
 rw [Lib.run_from_unsafe w ⟨b,0,none⟩ Tryz.underlying128 Tryz.underlying59 hj hsh (by kernel_rfl)]
 simp only [Result.andThen]
 rw [Oper.upon_value]
 go_wp2
 go_end0
 exact ⟨rfl,rfl⟩
set_option maxRecDepth 100000 in
theorem bs_us (W:World) (q:Option Addr):(Builtin.unsafeString_ #[114,3] 9 #[.pointer q,.int .i64 0]).run Tryz.prog W=.ok (.string .empty) W:=
 Lib.run_unsafeString_none W _ _ _ q
set_option maxHeartbeats 1000000 in
theorem bs_row (b g cap:Nat) (p:Value) (cur:Array Value) (l:List UInt8) (w:World) (h0:l≠[]) (hbk:w.heap[b]?=some (.cells #[p,.slice (some ⟨g,0,none⟩) l.length cap] 61 (0,0)))
 (hg:w.heap[g]?=some (.cells cur 5 (0,0))) (hnc:l.length<=cap) (hcm:cap<=maxLen) (hcs:cur.size=cap) (hcell:∀ i c,l[i]?=some c->w.cell? ⟨g,i,none⟩=some (byteV c)):
 Calls Tryz.prog 51 #[.pointer (some ⟨b,0,none⟩)] w fun e w'=>e=.returned (.string ⟨l.toArray⟩)/\w'=w.drew.freeze ⟨g,0,none⟩ l.length:=by
 have hl0:l.length≠0:=by simpa using h0
 have c1:w.drew.cell? ⟨b,1,none⟩=some (.slice (some ⟨g,0,none⟩) l.length cap):=by
  have:w.drew.heap[b]?=some (.cells #[p,.slice (some ⟨g,0,none⟩) l.length cap] 61 (0,0)):=hbk
  rw [Lib.cell_of_heap this]; rfl
 have hSD:(Builtin.unsafeSliceData_ #[25] 114 #[.slice (some ⟨g,0,none⟩) l.length cap]).run Tryz.prog w.drew=.ok (.pointer (some ⟨g,0,none⟩)) w.drew:=
  Lib.run_unsafeSliceData_row _ _ _ _ _ _ (by omega)
 have hUS:(Builtin.unsafeString_ #[114,3] 9 #[.pointer (some ⟨g,0,none⟩),.int .i64 l.length]).run Tryz.prog w.drew=.ok (.string ⟨l.toArray⟩) (w.drew.freeze ⟨g,0,none⟩ l.length):=by
  refine Lib.run_unsafeString_row w.drew 114 3 9 5 Tryz.underlying114 (by kernel_rfl) g cur.size (by have hg':w.drew.heap[g]?=some (.cells cur 5 (0,0)):=hg; simp [World.shape?,hg']) l h0 (by omega) (by unfold maxLen at hcm; omega) ?_
  intro j x hx
  have:=hcell j x hx
  have e:(⟨g,0,none⟩:Addr).add j=⟨g,j,none⟩:=by rw [addr_add,Nat.zero_add]
  rw [e]; exact this
 clear hcell
 go_enter Tryz.func51,Tryz.ntmps51
 go_wp2
 have mixed:=Checked.mixed Tryz.checked
 go_region_o
 all_goals (go_wp2; go_ret; exact ⟨rfl,rfl⟩)
set_option maxHeartbeats 1000000 in
theorem bs_nil (b:Nat) (p:Value) (w:World) (hbk:w.heap[b]?=some (.cells #[p,.slice none 0 0] 61 (0,0))):
 Calls Tryz.prog 51 #[.pointer (some ⟨b,0,none⟩)] w fun e w'=>e=.returned (.string ⟨#[]⟩)/\Below w.heap.size w w':=by
 have hUS:=bs_us
 have c1:w.drew.cell? ⟨b,1,none⟩=some (.slice none 0 0):=by
  have:w.drew.heap[b]?=some (.cells #[p,.slice none 0 0] 61 (0,0)):=hbk
  rw [Lib.cell_of_heap this]; rfl
 have hSD:(Builtin.unsafeSliceData_ #[25] 114 #[.slice none 0 0]).run Tryz.prog w.drew=.ok (.pointer none) w.drew:=rfl
 go_enter Tryz.func51,Tryz.ntmps51
 go_wp2
 have mixed:=Checked.mixed Tryz.checked
 go_region_o
 all_goals (go_wp2; go_ret; exact ⟨rfl,Below.drew (Below.refl _ w)⟩)
set_option maxHeartbeats 1000000 in
theorem bs_noroom (b g:Nat) (p:Value) (cur:Array Value) (w:World) (hbk:w.heap[b]?=some (.cells #[p,.slice (some ⟨g,0,none⟩) 0 0] 61 (0,0))) (hg:w.heap[g]?=some (.cells cur 5 (0,0))):
 Calls Tryz.prog 51 #[.pointer (some ⟨b,0,none⟩)] w fun e w'=>e=.returned (.string ⟨#[]⟩)/\Below w.heap.size w w':=by
 have hUS:=bs_us
 have hlt:b < w.heap.size:=by
  rcases Nat.lt_or_ge b w.heap.size with h' | h'
  .exact h'
  .simp [Array.getElem?_eq_none h'] at hbk
 have c1:w.drew.cell? ⟨b,1,none⟩=some (.slice (some ⟨g,0,none⟩) 0 0):=by
  have:w.drew.heap[b]?=some (.cells #[p,.slice (some ⟨g,0,none⟩) 0 0] 61 (0,0)):=hbk
  rw [Lib.cell_of_heap this]; rfl
 have hSD:(Builtin.unsafeSliceData_ #[25] 114 #[.slice (some ⟨g,0,none⟩) 0 0]).run Tryz.prog w.drew=.ok (.pointer (some ⟨w.drew.heap.size,0,none⟩)) (w.drew.alloc (.view ⟨g,0,none⟩ 5)):=
  Lib.run_unsafeSliceData_zero w.drew _ _ 5 Tryz.underlying114 ⟨g,0,none⟩ 0 (5,cur.size) (by have hg':w.drew.heap[g]?=some (.cells cur 5 (0,0)):=hg; simp [World.shape?,hg'])
 have c2:(w.drew.alloc (.view ⟨g,0,none⟩ 5)).cell? ⟨b,1,none⟩=some (.slice (some ⟨g,0,none⟩) 0 0):=by
  have:(w.drew.alloc (.view ⟨g,0,none⟩ 5)).heap[b]?=_:=(Lib.alloc_old w.drew _ b hlt).trans hbk
  rw [Lib.cell_of_heap this]; rfl
 have c3:(w.alloc (.view ⟨g,0,none⟩ 5)).drew.cell? ⟨b,1,none⟩=some (.slice (some ⟨g,0,none⟩) 0 0):=c2
 have c0:w.cell? ⟨b,1,none⟩=some (.slice (some ⟨g,0,none⟩) 0 0):=c1
 go_enter Tryz.func51,Tryz.ntmps51
 go_wp2
 have mixed:=Checked.mixed Tryz.checked
 go_region_o
 all_goals (go_wp2; go_ret; exact ⟨rfl,(Below.drew (Below.refl _ w)).alloc (Nat.le_refl _) _⟩)
set_option maxHeartbeats 1000000 in
theorem bs_room (b g cap:Nat) (p:Value) (w:World) (hc0:cap≠0) (hbk:w.heap[b]?=some (.cells #[p,.slice (some ⟨g,0,none⟩) 0 cap] 61 (0,0))):
 Calls Tryz.prog 51 #[.pointer (some ⟨b,0,none⟩)] w fun e w'=>e=.returned (.string ⟨#[]⟩)/\Below w.heap.size w w':=by
 have hUS:=bs_us
 have c1:w.drew.cell? ⟨b,1,none⟩=some (.slice (some ⟨g,0,none⟩) 0 cap):=by
  have:w.drew.heap[b]?=some (.cells #[p,.slice (some ⟨g,0,none⟩) 0 cap] 61 (0,0)):=hbk
  rw [Lib.cell_of_heap this]; rfl
 have hSD:(Builtin.unsafeSliceData_ #[25] 114 #[.slice (some ⟨g,0,none⟩) 0 cap]).run Tryz.prog w.drew=.ok (.pointer (some ⟨g,0,none⟩)) w.drew:=
  Lib.run_unsafeSliceData_row _ _ _ _ _ _ hc0
 clear hc0
 go_enter Tryz.func51,Tryz.ntmps51
 go_wp2
 have mixed:=Checked.mixed Tryz.checked
 go_region_o
 all_goals (go_wp2; go_ret; exact ⟨rfl,Below.drew (Below.refl _ w)⟩)
end
end Go.Proofs.YtoanepondbagcaaGreatDoor
namespace Go.Proofs.YtoanepondbagcaaGreatDoor
open Go Go.Am
set_option linter.unusedVariables false
section
open Go.RowKit Go.Lib
theorem bld_parts {γ:Nat->Option G} {M:Mem} {w:World} {L:Nat->Prop} {obF:Nat->Option AObj} {id:Nat} {T:TypeId} {a:AV} (hO:Objs γ M w obF L) (ho:obF id=some (.bldr T a)):
 ∃ b v0 v1,γ id=some (.cell b)/\w.heap[b]?=some (.cells #[v0,v1] T (0,0))/\(v0=.pointer none\/v0=.pointer (some ⟨b,0,none⟩))/\ARel γ M a v1/\v1.oneCell'=true/\(∀ o,M b o=none):=hO.ob id _ ho
theorem FnR_cc (a:AV) (rest:List (Nat×AObj)):
 FnR Tryz.prog 80 [.ref 70000 0] ((70000,.bldr 61 a)::rest) (70000::rest.map (·.1)) (.tup []) ((70000,.bldr 61 a)::rest):=by
 intro γ M w vs hO hnone hM hvs
 obtain ⟨b,v0,v1,hg,hh,h0,h1,h2,hm⟩:=bld_parts (id:=70000) hO rfl
 cases hvs with
 | cons hx ht=>
  cases ht
  obtain ⟨b',hg',rfl⟩:=hx.ref_inv
  rw [hg] at hg'; cases hg'
  have hb:Go.Am.Handed γ ((70000,.bldr 61 a)::rest) b:=⟨70000,.cell b,by simp [lookO],hg,rfl⟩
  have hlt:b < w.heap.size:=hO.lo 70000 _ b (by simp [lookO]) hg rfl
  have e0:([Value.pointer (some ⟨b,0,none⟩)]:List Value).toArray=#[.pointer (some ⟨b,0,none⟩)]:=rfl
  rcases h0 with rfl | rfl
  .have hc0:w.cell? ⟨b,0,none⟩=some (.pointer none):=by rw [cell_of_row w b 0 _ _ _ hh]; rfl
   refine (cc_fresh b w hc0 (by simp [World.shape?,hh]) (by simp [World.frozen?,hh])).mono fun e w' ⟨he,hw⟩=>?_
   subst hw
   have hset:(w.setCell ⟨b,0,none⟩ (.pointer (some ⟨b,0,none⟩)))=w.setRow b #[.pointer (some ⟨b,0,none⟩),v1]:=by
    rw [setCell_eq_setRow w b 0 _ _ _ _ hh]; rfl
   rw [hset]
   have hoth:∀ c,c≠b->(w.setRow b #[.pointer (some ⟨b,0,none⟩),v1]).heap[c]?=w.heap[c]?:=fun c hc=>setRow_other w b c _ hc
   refine ⟨_,γ,M,he,fun i _ g hgi=>hgi,MLe.refl M,?_,.tup _ _ rfl (fun i hi=>absurd hi (Nat.not_lt_zero _)),⟨?_,hO.sep,?_⟩,?_,by simp,rfl,rfl,rfl⟩
   .refine ⟨?_,hM.good⟩
    intro c o v hv
    have hc:c≠b:=fun e=>by subst e; rw [hm o] at hv; cases hv
    rw [World.cell?_of_block (w:=w) (hoth c hc)]; exact hM c o v hv
   .intro i o hi
    by_cases e:i=70000
    .subst e
     have:o=.bldr 61 a:=by simpa [lookO] using hi.symm
     subst this
     exact ⟨b,_,v1,hg,setRow_heap w b _ _ _ _ hh,.inr rfl,h1,h2,hm⟩
    .refine (hO.ob i o hi).keep (GLe.refl γ) (MLe.refl M) fun g c hgi hgc=>⟨hoth c fun ec=>?_,rfl⟩
     subst ec
     exact e (hO.sep i 70000 g (.cell c) c (by rw [hi]; simp) (by simp [lookO]) hgi hg hgc rfl)
   .intro i g c hi hgi hgc
    have:=hO.lo i g c hi hgi hgc
    exact ⟨.inr ⟨i,g,hi,hgi,hgc⟩,by simpa using this⟩
   .intro c hc hno
    exact ⟨hoth c fun e=>hno (by rw [e]; exact hb),rfl⟩
  .have hc0:w.cell? ⟨b,0,none⟩=some (.pointer (some ⟨b,0,none⟩)):=by rw [cell_of_row w b 0 _ _ _ hh]; rfl
   refine (cc_used b w hc0).mono fun e w' ⟨he,hw⟩=>?_
   subst hw
   exact ⟨_,γ,M,he,fun i _ g hgi=>hgi,MLe.refl M,hM,.tup _ _ rfl (fun i hi=>absurd hi (Nat.not_lt_zero _)),⟨hO.ob,hO.sep,fun i g c hi hgi hgc=>⟨.inr ⟨i,g,hi,hgi,hgc⟩,hO.lo i g c hi hgi hgc⟩⟩,
    fun c hc hno=>⟨rfl,rfl⟩,Nat.le_refl _,rfl,rfl,rfl⟩
theorem freeze_cell (w:World) (a:Addr) (n:Nat) (p:Addr):(w.drew.freeze a n).cell? p=w.cell? p:=by
 unfold World.freeze
 split
 .rfl
 .have hd:w.drew.heap=w.heap:=rfl
  simp only [World.cell?,Array.getElem?_modify,hd]
  by_cases e:a.block=p.block
  .rw [if_pos e]
   cases hh2:w.heap[p.block]? with
   | none=>rfl
   | some o=>cases o <;> rfl
  .rw [if_neg e]
theorem FnR_str_of {γ:Nat->Option G} {M:Mem} {w w':World} {ib:List (Nat×AObj)} {l:List UInt8} (hM:MOk M w) (hl:l.length<=maxLen) (hold:∀ c,c < w.heap.size->¬ Go.Am.Handed γ ib c->w'.heap[c]?=w.heap[c]?) (hcell:∀ c o v,M c o=some v->w'.cell? ⟨c,o,none⟩=w.cell? ⟨c,o,none⟩)
 (hsz:w.heap.size<=w'.heap.size) (h1:w'.os=w.os) (h2:w'.tape=w.tape) (h3:w'.output=w.output):
 ∃ v γ' M',Ending.returned (.string ⟨l.toArray⟩)=.returned v/\(∀ i ∈ ([]:List Nat),∀ g,γ i=some g->γ' i=some g)/\MLe M M'/\MOk M' w'/\ARel γ' M' (.p (.str l)) v/\
  Objs γ' M' w' (fun i=>lookO i []) (fun b=>(w.heap.size<=b\/Go.Am.Handed γ ib b)/\b < w'.heap.size)/\
  (∀ b,b < w.heap.size->¬ Go.Am.Handed γ ib b->w'.heap[b]?=w.heap[b]?/\M' b=M b)/\w.heap.size<=w'.heap.size/\w'.os=w.os/\w'.tape=w.tape/\w'.output=w.output:=
 ⟨_,γ,M,rfl,fun i hi=>(by cases hi),MLe.refl M,⟨fun c o v hv=>(by rw [hcell c o v hv]; exact hM c o v hv),hM.good⟩,.p _ _ (.str l hl),
  ⟨fun i o hi=>(by cases hi),fun i j g g' b hi=>absurd rfl hi,fun i g b hi=>absurd rfl hi⟩,fun b hb hno=>⟨hold b hb hno,rfl⟩,hsz,h1,h2,h3⟩
theorem below_cell {w w':World} (hb:Below w.heap.size w w') {M:Mem} (hM:MOk M w):∀ c o v,M c o=some v->w'.cell? ⟨c,o,none⟩=w.cell? ⟨c,o,none⟩:=fun c o v hv=>by
 have hc:c < w.heap.size:=by
  rcases Nat.lt_or_ge c w.heap.size with h | h
  .exact h
  .have:=hM c o v hv
   simp [World.cell?,Array.getElem?_eq_none h] at this
 exact hb.cell (p:=⟨c,o,none⟩) hc
theorem FnR_str (mu:Bool) (l:List UInt8):
 FnR Tryz.prog 51 [.ref 70000 0] [(70000,.bldr 61 (.arr 70001)),(70001,.barr 5 mu l)] [] (.p (.str l)) []:=by
 intro γ M w vs hO hnone hM hvs
 obtain ⟨b,v0,v1,hg,hh,h0,h1,h2,hm⟩:=bld_parts (id:=70000) hO rfl
 obtain ⟨a,cap,hg1,hA⟩:=hO.ob 70001 (.barr 5 mu l) rfl
 cases hvs with
 | cons hx ht=>
  cases ht
  obtain ⟨b',hg',rfl⟩:=hx.ref_inv
  rw [hg] at hg'; cases hg'
  obtain ⟨a',k',n',cap',hg1',rfl⟩:=h1.arr_inv
  rw [hg1] at hg1'; cases hg1'
  cases a with
  | none=>
   obtain ⟨hl,rfl⟩:=hA.none
   have:l=[]:=List.eq_nil_of_length_eq_zero hl
   subst this
   refine (bs_nil b v0 w hh).mono fun e w' ⟨he,hb⟩=>?_
   rw [he]
   exact FnR_str_of hM (by simp) (fun c hc _=>hb.block c hc) (below_cell hb hM) hb.size hb.os hb.tape hb.output
  | some g=>
   rcases hA.own.2 with ⟨hv,_⟩ | ⟨g',cap',cur,hv,_,hgh,hnc,hcm,hcs,htake⟩
   .simp [arrV] at hv
   .simp only [arrV,Option.map_some,Value.slice.injEq,Option.some.injEq,Addr.mk.injEq,and_true,true_and] at hv
    obtain ⟨rfl,rfl⟩:=hv
    have hne:g≠b:=fun e=>by
     subst e
     have:=hO.sep 70000 70001 _ _ g (by simp [lookO]) (by simp [lookO]) hg hg1 rfl rfl
     cases this
    have hbg:Go.Am.Handed γ [(70000,.bldr 61 (.arr 70001)),(70001,.barr 5 mu l)] g:=⟨70001,_,by simp [lookO],hg1,rfl⟩
    by_cases hl:l=[]
    .subst hl
     by_cases hc0:cap=0
     .subst hc0
      refine (bs_noroom b g v0 cur w hh hgh).mono fun e w' ⟨he,hb⟩=>?_
      rw [he]
      exact FnR_str_of hM (by simp) (fun c hc _=>hb.block c hc) (below_cell hb hM) hb.size hb.os hb.tape hb.output
     .refine (bs_room b g cap v0 w hc0 hh).mono fun e w' ⟨he,hb⟩=>?_
      rw [he]
      exact FnR_str_of hM (by simp) (fun c hc _=>hb.block c hc) (below_cell hb hM) hb.size hb.os hb.tape hb.output
    .refine (bs_row b g cap v0 cur l w hl hh hgh hnc hcm (by simpa using hcs) fun i c hc=>?_).mono fun e w' ⟨he,hw⟩=>?_
     .exact hA.cell i _ (by rw [List.getElem?_map,hc]; rfl)
     .subst hw
      rw [he]
      have hoth:∀ c,c≠g->(w.drew.freeze ⟨g,0,none⟩ l.length).heap[c]?=w.heap[c]?:=fun c hc=>by
       unfold World.freeze
       split
       .rfl
       .simp only [Array.getElem?_modify]; rw [if_neg (fun e=>hc e.symm)]; rfl
      refine FnR_str_of hM hA.len (fun c hc hno=>hoth c fun e=>hno (by rw [e]; exact hbg)) (fun c o v hv=>freeze_cell _ _ _ _) ?_ ?_ ?_ ?_
      .unfold World.freeze; split
       .exact Nat.le_refl _
       .simp only [Array.size_modify]; exact Nat.le_refl _
      .unfold World.freeze; split <;> rfl
      .unfold World.freeze; split <;> rfl
      .unfold World.freeze; split <;> rfl
theorem FnR_str0:FnR Tryz.prog 51 [.ref 70000 0] [(70000,.bldr 61 (.p .nil))] [] (.p (.str [])) []:=by
 intro γ M w vs hO hnone hM hvs
 obtain ⟨b,v0,v1,hg,hh,h0,h1,h2,hm⟩:=bld_parts (id:=70000) hO rfl
 cases hvs with
 | cons hx ht=>
  cases ht
  obtain ⟨b',hg',rfl⟩:=hx.ref_inv
  rw [hg] at hg'; cases hg'
  cases h1.p_inv
  refine (bs_nil b v0 w hh).mono fun e w' ⟨he,hb⟩=>?_
  rw [he]
  exact FnR_str_of hM (by simp) (fun c hc _=>hb.block c hc) (below_cell hb hM) hb.size hb.os hb.tape hb.output
def sp_bcc:RSpec:=⟨[false],fun args ib=>match args,ib with
 | [.ref 70000 0],[(70000,.bldr 61 (.arr 70001)),(70001,.barr 5 mu l)]=>some (([70000,70001],.tup []),([(70000,.bldr 61 (.arr 70001)),(70001,.barr 5 mu l)],none))
 | [.ref 70000 0],[(70000,.bldr 61 (.p .nil))]=>some (([70000],.tup []),([(70000,.bldr 61 (.p .nil))],none))
 | _,_=>none⟩
theorem ok_bcc:SpecROk Tryz.prog 80 sp_bcc:=by
 intro args ib kept r outs ok he hok
 simp only [sp_bcc] at he
 split at he
 .cases he; exact ⟨by kernel_rfl,FnR_cc _ _⟩
 .cases he; exact ⟨by kernel_rfl,FnR_cc _ []⟩
 .cases he
def sp_bstr:RSpec:=⟨[false],fun args ib=>match args,ib with
 | [.ref 70000 0],[(70000,.bldr 61 (.arr 70001)),(70001,.barr 5 mu l)]=>some (([],.p (.str l)),([],none))
 | [.ref 70000 0],[(70000,.bldr 61 (.p .nil))]=>some (([],.p (.str [])),([],none))
 | _,_=>none⟩
theorem ok_bstr:SpecROk Tryz.prog 51 sp_bstr:=by
 intro args ib kept r outs ok he hok
 simp only [sp_bstr] at he
 split at he
 .cases he; exact ⟨by kernel_rfl,FnR_str _ _⟩
 .cases he; exact ⟨by kernel_rfl,FnR_str0⟩
 .cases he
end
end Go.Proofs.YtoanepondbagcaaGreatDoor
namespace Go.Proofs.YtoanepondbagcaaGreatDoor
open Go Go.Am
set_option linter.unusedVariables false
noncomputable def Gwsr:Cfg:=⟨Tryz.prog,mkEnv [],mkEnvR [(80,sp_bcc)],19,[70000],[],[([0,1],[1])]⟩
noncomputable def Fwsr (F:Nat) (s l:List UInt8):Option Ans:=runFR Gwsr Tryz.f48 ⟨[4,5],[⟨.fix 70000,70000,.cells []⟩,⟨.cell 70000 1,70001001,(.barr 5 false [])⟩]⟩ [70000,70001001] F [.ref 70000 0,.p (.str s)] [(70000,.bldr 61 (.arr 70001)),(70001,.barr 5 false l)]
theorem Fwsr_eq (F:Nat) (s l:List UInt8):Fwsr F s l=need ((l.length+s.length) * 1<=140737488355328) (some (.tup [.p (.int .i64 (s.length:Int)),.p (.plain .nilIface)],[(70000,.bldr 61 (.arr 70001001)),(70001001,.barr 5 false (l++s))])):=by kernel_rfl
theorem fn_wsr (F:Nat) (s l:List UInt8) (r:AV) (os:List (Nat×AObj)) (h:(∃ γ M w vs,ARels γ M [.ref 70000 0,.p (.str s)] vs/\Objs γ M w (fun i=>lookO i [(70000,.bldr 61 (.arr 70001)),(70001,.barr 5 false l)]) (fun b=>b < w.heap.size))->Fwsr F s l=some (r,os)):FnR Tryz.prog 48 [.ref 70000 0,.p (.str s)] [(70000,.bldr 61 (.arr 70001)),(70001,.barr 5 false l)] [70000] r os:=
 FnR_run Gwsr ⟨[4,5],[⟨.fix 70000,70000,.cells []⟩,⟨.cell 70000 1,70001001,(.barr 5 false [])⟩]⟩ [70000,70001001] F rfl (EnvOk_mk (l:=[]) trivial) (EnvROk_mk (l:=[(80,sp_bcc)]) ⟨ok_bcc,trivial⟩) (Checked.mixed Tryz.checked) (fn:=Tryz.f48) (by kernel_rfl) (by kernel_rfl) rfl h
noncomputable def Gwsn:Cfg:=⟨Tryz.prog,mkEnv [],mkEnvR [(80,sp_bcc)],19,[70000],[],[([0,1],[1])]⟩
noncomputable def Fwsn (F:Nat) (s:List UInt8):Option Ans:=runFR Gwsn Tryz.f48 ⟨[4,5],[⟨.fix 70000,70000,.cells []⟩,⟨.cell 70000 1,70001001,(.barr 5 false [])⟩]⟩ [70000,70001001] F [.ref 70000 0,.p (.str s)] [(70000,.bldr 61 (.p .nil))]
theorem Fwsn_eq (F:Nat) (s:List UInt8):Fwsn F s=need (s.length * 1<=140737488355328) (some (.tup [.p (.int .i64 (s.length:Int)),.p (.plain .nilIface)],[(70000,.bldr 61 (.arr 70001001)),(70001001,.barr 5 false s)])):=by kernel_rfl
theorem fn_wsn (F:Nat) (s:List UInt8) (r:AV) (os:List (Nat×AObj)) (h:(∃ γ M w vs,ARels γ M [.ref 70000 0,.p (.str s)] vs/\Objs γ M w (fun i=>lookO i [(70000,.bldr 61 (.p .nil))]) (fun b=>b < w.heap.size))->Fwsn F s=some (r,os)):FnR Tryz.prog 48 [.ref 70000 0,.p (.str s)] [(70000,.bldr 61 (.p .nil))] [70000] r os:=
 FnR_run Gwsn ⟨[4,5],[⟨.fix 70000,70000,.cells []⟩,⟨.cell 70000 1,70001001,(.barr 5 false [])⟩]⟩ [70000,70001001] F rfl (EnvOk_mk (l:=[]) trivial) (EnvROk_mk (l:=[(80,sp_bcc)]) ⟨ok_bcc,trivial⟩) (Checked.mixed Tryz.checked) (fn:=Tryz.f48) (by kernel_rfl) (by kernel_rfl) rfl h
noncomputable def Gwbr:Cfg:=⟨Tryz.prog,mkEnv [],mkEnvR [(80,sp_bcc)],17,[70000],[],[([0,1],[1])]⟩
noncomputable def Fwbr (F:Nat) (c:Int) (l:List UInt8):Option Ans:=runFR Gwbr Tryz.f65 ⟨[4],[⟨.fix 70000,70000,.cells []⟩,⟨.cell 70000 1,70001001,(.barr 5 false [])⟩]⟩ [70000,70001001] F [.ref 70000 0,.p (.int .u8 c)] [(70000,.bldr 61 (.arr 70001)),(70001,.barr 5 false l)]
theorem Fwbr_eq (F:Nat) (c:Int) (l:List UInt8):Fwbr F c l=need ((l.length+[UInt8.ofNat (c).toNat].length) * 1<=140737488355328) (some (.p (.plain .nilIface),[(70000,.bldr 61 (.arr 70001001)),(70001001,.barr 5 false (l++[UInt8.ofNat (c).toNat]))])):=by kernel_rfl
theorem fn_wbr (F:Nat) (c:Int) (l:List UInt8) (r:AV) (os:List (Nat×AObj)) (h:(∃ γ M w vs,ARels γ M [.ref 70000 0,.p (.int .u8 c)] vs/\Objs γ M w (fun i=>lookO i [(70000,.bldr 61 (.arr 70001)),(70001,.barr 5 false l)]) (fun b=>b < w.heap.size))->Fwbr F c l=some (r,os)):FnR Tryz.prog 65 [.ref 70000 0,.p (.int .u8 c)] [(70000,.bldr 61 (.arr 70001)),(70001,.barr 5 false l)] [70000] r os:=
 FnR_run Gwbr ⟨[4],[⟨.fix 70000,70000,.cells []⟩,⟨.cell 70000 1,70001001,(.barr 5 false [])⟩]⟩ [70000,70001001] F rfl (EnvOk_mk (l:=[]) trivial) (EnvROk_mk (l:=[(80,sp_bcc)]) ⟨ok_bcc,trivial⟩) (Checked.mixed Tryz.checked) (fn:=Tryz.f65) (by kernel_rfl) (by kernel_rfl) rfl h
noncomputable def Gwbn:Cfg:=⟨Tryz.prog,mkEnv [],mkEnvR [(80,sp_bcc)],17,[70000],[],[([0,1],[1])]⟩
noncomputable def Fwbn (F:Nat) (c:Int):Option Ans:=runFR Gwbn Tryz.f65 ⟨[4],[⟨.fix 70000,70000,.cells []⟩,⟨.cell 70000 1,70001001,(.barr 5 false [])⟩]⟩ [70000,70001001] F [.ref 70000 0,.p (.int .u8 c)] [(70000,.bldr 61 (.p .nil))]
theorem Fwbn_eq (F:Nat) (c:Int):Fwbn F c=need ([UInt8.ofNat (c).toNat].length * 1<=140737488355328) (some (.p (.plain .nilIface),[(70000,.bldr 61 (.arr 70001001)),(70001001,.barr 5 false [UInt8.ofNat (c).toNat])])):=by kernel_rfl
theorem fn_wbn (F:Nat) (c:Int) (r:AV) (os:List (Nat×AObj)) (h:(∃ γ M w vs,ARels γ M [.ref 70000 0,.p (.int .u8 c)] vs/\Objs γ M w (fun i=>lookO i [(70000,.bldr 61 (.p .nil))]) (fun b=>b < w.heap.size))->Fwbn F c=some (r,os)):FnR Tryz.prog 65 [.ref 70000 0,.p (.int .u8 c)] [(70000,.bldr 61 (.p .nil))] [70000] r os:=
 FnR_run Gwbn ⟨[4],[⟨.fix 70000,70000,.cells []⟩,⟨.cell 70000 1,70001001,(.barr 5 false [])⟩]⟩ [70000,70001001] F rfl (EnvOk_mk (l:=[]) trivial) (EnvROk_mk (l:=[(80,sp_bcc)]) ⟨ok_bcc,trivial⟩) (Checked.mixed Tryz.checked) (fn:=Tryz.f65) (by kernel_rfl) (by kernel_rfl) rfl h
def sp_wstr:RSpec:=⟨[false,true],fun args ib=>match args,ib with
 | [.ref 70000 0,.p (.str s)],[(70000,.bldr 61 (.arr 70001)),(70001,.barr 5 false l)]=>some (([70000],.tup [.p (.int .i64 (s.length:Int)),.p (.plain .nilIface)]),([(70000,.bldr 61 (.arr 70001001)),(70001001,.barr 5 false (l++s))],some (l.length+s.length<=140737488355328)))
 | [.ref 70000 0,.p (.str s)],[(70000,.bldr 61 (.p .nil))]=>some (([70000],.tup [.p (.int .i64 (s.length:Int)),.p (.plain .nilIface)]),([(70000,.bldr 61 (.arr 70001001)),(70001001,.barr 5 false s)],some (s.length<=140737488355328)))
 | _,_=>none⟩
theorem ok_wstr:SpecROk Tryz.prog 48 sp_wstr:=by
 intro args ib kept r outs ok he hok
 simp only [sp_wstr] at he
 split at he
 .cases he
  exact ⟨by kernel_rfl,fn_wsr 0 _ _ _ _ fun _=>by rw [Fwsr_eq,need_pos (by rw [Nat.mul_one]; exact hok)]⟩
 .cases he
  exact ⟨by kernel_rfl,fn_wsn 0 _ _ _ fun _=>by rw [Fwsn_eq,need_pos (by rw [Nat.mul_one]; exact hok)]⟩
 .cases he
def sp_wbyte:RSpec:=⟨[false,true],fun args ib=>match args,ib with
 | [.ref 70000 0,.p (.int .u8 c)],[(70000,.bldr 61 (.arr 70001)),(70001,.barr 5 false l)]=>some (([70000],.p (.plain .nilIface)),([(70000,.bldr 61 (.arr 70001001)),(70001001,.barr 5 false (l++[UInt8.ofNat c.toNat]))],some (l.length+1<=140737488355328)))
 | [.ref 70000 0,.p (.int .u8 c)],[(70000,.bldr 61 (.p .nil))]=>some (([70000],.p (.plain .nilIface)),([(70000,.bldr 61 (.arr 70001001)),(70001001,.barr 5 false [UInt8.ofNat c.toNat])],none))
 | _,_=>none⟩
theorem ok_wbyte:SpecROk Tryz.prog 65 sp_wbyte:=by
 intro args ib kept r outs ok he hok
 simp only [sp_wbyte] at he
 split at he
 .cases he
  exact ⟨by kernel_rfl,fn_wbr 0 _ _ _ _ fun _=>by rw [Fwbr_eq,need_pos (by rw [Nat.mul_one]; exact hok)]⟩
 .cases he
  exact ⟨by kernel_rfl,fn_wbn 0 _ _ _ fun _=>by rw [Fwbn_eq,need_pos (by show 1 * 1<=_; decide)]⟩
 .cases he
end Go.Proofs.YtoanepondbagcaaGreatDoor
namespace Go.Proofs.YtoanepondbagcaaGreatDoor
open Go Go.Am
set_option linter.unusedVariables false
section
open Go.RowKit Go.Lib
set_option maxHeartbeats 1000000 in
theorem bg_fresh (b n:Nat) (w:World) (hbk:w.heap[b]?=some (.cells #[.pointer (some ⟨b,0,none⟩),.slice none 0 0] 61 (0,0))) (hn:n<=281474976710656):
 Calls Tryz.prog 89 #[.pointer (some ⟨b,0,none⟩),.int .i64 n] w fun e w'=>e=.returned (.tuple #[])/\
  ∃ cs:Array Value,cs.size<=maxLen/\w'.heap=((w.setCell ⟨b,1,none⟩ (.slice (some ⟨w.heap.size,0,none⟩) 0 cs.size)).alloc (.cells cs 5)).heap/\w'.os=w.os/\w'.tape=w.tape/\w'.output=w.output:=by
 obtain ⟨cs,hrun,hle,hmax⟩:=Lib.run_makeNoZero (P:=Tryz.prog) w.drew #[3] 25 5 Tryz.underlying25 n hn
 have hw:IntKind.i64.wrap (IntKind.i64.wrap 0+(n:Int))=n:=by
  rw [IntKind.wrap_i64,IntKind.wrap_i64]
  omega
 have hcall:(callFunc 125 #[.int .i64 (IntKind.i64.wrap (IntKind.i64.wrap 0+(n:Int)))]).run Tryz.prog w.drew=.ok (.value (.slice (some ⟨w.drew.heap.size,0,none⟩) n cs.size)) (w.drew.drew.drew.alloc (.cells cs 5)):=by
  rw [hw,run_callFunc_extern Tryz.func125 (by kernel_rfl) (by kernel_rfl) (by kernel_rfl) (e:=Extern.BytealgMakeNoZero.makeNoZero #[3] #[25]) (by kernel_rfl),hrun]
  rfl
 have hlt:b < w.heap.size:=by
  rcases Nat.lt_or_ge b w.heap.size with h' | h'
  .exact h'
  .simp [Array.getElem?_eq_none h'] at hbk
 have c1:w.drew.cell? ⟨b,1,none⟩=some (.slice none 0 0):=by
  have:w.drew.heap[b]?=_:=hbk
  rw [Lib.cell_of_heap this]; rfl
 have c2:(w.alloc (.cells cs 5)).cell? ⟨b,1,none⟩=some (.slice none 0 0):=by
  have:(w.alloc (.cells cs 5)).heap[b]?=_:=(Lib.alloc_old w _ b hlt).trans hbk
  rw [Lib.cell_of_heap this]; rfl
 have f2:(w.alloc (.cells cs 5)).frozen? ⟨b,1,none⟩=false:=by
  exact Lib.frozen_of_heap ((Lib.alloc_old w _ b hlt).trans hbk) 1
 have hcopy:∀ W:World,(Builtin.copy_ #[25,25] 3 #[.slice (some ⟨w.heap.size,0,none⟩) 0 cs.size,.slice none 0 0]).run Tryz.prog W=.ok (goInt 0) W:=
  fun W=>run_copy_none W 25 25 3 5 _ _ 0 cs.size 0 0 Tryz.underlying25 (by kernel_rfl) rfl
 clear hw
 have hfin:=hmax (by unfold maxLen; omega)
 have mixed:=Checked.mixed Tryz.checked
 go_enter Tryz.func89,Tryz.ntmps89
 go_wp2
 go_region_o
 all_goals (go_wp2; go_end0; exact ⟨rfl,cs,hfin,rfl,rfl,rfl,rfl⟩)
set_option maxHeartbeats 1000000 in
theorem bG_fresh (b n:Nat) (w w1:World) (h1n:1<=n) (hn:n<=281474976710656)
 (hcc:Calls Tryz.prog 80 #[.pointer (some ⟨b,0,none⟩)] w fun e w'=>e=.returned (.tuple #[])/\w'=w1)
 (hbk1:w1.heap[b]?=some (.cells #[.pointer (some ⟨b,0,none⟩),.slice none 0 0] 61 (0,0))):
 Calls Tryz.prog 52 #[.pointer (some ⟨b,0,none⟩),.int .i64 n] w fun e w'=>e=.returned (.tuple #[])/\
  ∃ cs:Array Value,cs.size<=maxLen/\w'.heap=((w1.setCell ⟨b,1,none⟩ (.slice (some ⟨w1.heap.size,0,none⟩) 0 cs.size)).alloc (.cells cs 5)).heap/\w'.os=w1.os/\w'.tape=w1.tape/\w'.output=w1.output:=by
 have c1:w1.cell? ⟨b,1,none⟩=some (.slice none 0 0):=by rw [Lib.cell_of_heap hbk1]; rfl
 have mixed:=Checked.mixed Tryz.checked
 have c1':w1.drew.cell? ⟨b,1,none⟩=some (.slice none 0 0):=c1
 have hgr:=bg_fresh b n w1.drew hbk1 hn
 go_enter Tryz.func52,Tryz.ntmps52
 go_wp2_with (go_at_call 80; refine hcc.mono ?_; rintro e w' ⟨rfl,rfl⟩)
 go_region_o
 all_goals go_wp2_with (go_at_call 89; refine hgr.mono ?_; rintro e w' ⟨rfl,cs,h1,h2,h3,h4,h5⟩)
 all_goals first
  | (go_end0; exact ⟨rfl,cs,h1,h2,h3,h4,h5⟩)
  | (exfalso; simp_all; omega)
end
end Go.Proofs.YtoanepondbagcaaGreatDoor
