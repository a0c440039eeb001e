/-
  Lifted functions, and facts about them.
-/
import Derived.Test.YtampckbjinodgaaGreatDoorRows
import Derived.Test.YtampckbjinodgaaGreatDoorAmC
import Derived.Test.YtampckbjinodgaaGreatDoorC01
import Derived.Lib.Bytealg
namespace Go.Proofs.YtampckbjinodgaaGreatDoor
open Go Go.Am
set_option linter.unusedVariables false
def szN (c:UInt8):Nat:=if 240<=c.toNat then 4 else if 224<=c.toNat then 3 else if 192<=c.toNat then 2 else 1
def v0 (c:UInt8):Nat:=if 240<=c.toNat then c.toNat % 8 else if 224<=c.toNat then c.toNat % 16 else if 192<=c.toNat then c.toNat % 32 else c.toNat
def foldV:Nat->List UInt8->Nat
 | v,[]=>v
 | v,b::r=>foldV (v * 64+b.toNat % 64) r
def finV (s:List UInt8) (i n v:Nat):Int×Int:=if putS v=(s.drop i).take n then ((v:Int),(i:Int)+n) else (-1,i)
def getS (s:List UInt8) (i:Int):Int×Int:=
 if i < 0\/i>=s.length then (-1,i) else
 let c:=s.getD i.toNat 0
 if szN c > s.length - i.toNat then (-1,i) else finV s i.toNat (szN c) (foldV (v0 c) ((s.drop (i.toNat+1)).take (szN c - 1)))
abbrev posok (s:List UInt8) (i:Int):Prop:=0<=i/\i<=s.length/\s.length<=1000000
def getT (p:Int×Int):AV:=.tup [.p (.int .i64 p.1),.p (.int .i64 p.2)]
theorem and_lo (c:UInt8):ibits .and .u8 (c.toNat:Int) (63:Int)=((c.toNat % 64:Nat):Int)/\ibits .and .u8 (c.toNat:Int) (7:Int)=((c.toNat % 8:Nat):Int)/\ibits .and .u8 (c.toNat:Int) (15:Int)=((c.toNat % 16:Nat):Int)/\ibits .and .u8 (c.toNat:Int) (31:Int)=((c.toNat % 32:Nat):Int):=by
 have h:=c.toNat_lt
 have:∀ x:Fin 256,ibits .and .u8 ((x.val:Nat):Int) (63:Int)=((x.val % 64:Nat):Int)/\ibits .and .u8 ((x.val:Nat):Int) (7:Int)=((x.val % 8:Nat):Int)/\ibits .and .u8 ((x.val:Nat):Int) (15:Int)=((x.val % 16:Nat):Int)/\ibits .and .u8 ((x.val:Nat):Int) (31:Int)=((x.val % 32:Nat):Int):=by decide+kernel
 exact this ⟨c.toNat,h⟩
theorem step6 (v:Nat) (c:UInt8) (hv:v < 134217728):ibits .or .i64 (IntKind.i64.wrap ((v:Int) * 64)) (ibits .and .u8 (c.toNat:Int) (63:Int))=((v * 64+c.toNat % 64:Nat):Int):=by
 rw [(and_lo c).1,i64_small (by omega) (by omega),show (v:Int) * 64=((v * 2 ^ 6:Nat):Int) by omega,i64_or (by omega) (by omega),or_add _ _ _ (by omega)]
theorem take_cons {s:List UInt8} {j m:Nat} (h:j < s.length):(s.drop j).take (m+1)=s.getD j 0::(s.drop (j+1)).take m:=by
 rw [List.drop_eq_getElem_cons h,List.take_succ_cons,List.getD_eq_getElem?_getD,List.getElem?_eq_getElem h]; rfl
theorem fin_drop (s:List UInt8) (i n:Nat):(s.take (i+n)).drop i=(s.drop i).take n:=by rw [List.drop_take,Nat.add_sub_cancel_left]
def sp_rget:List AV->Option (AV×Option Prop)
 | [.p (.str s),.p (.int .i64 i)]=>some (.tup [.p (.int .i64 ((getS s i).1)),.p (.int .i64 ((getS s i).2))],some (posok s i))
 | _=>none
noncomputable def Gusize:Cfg:=⟨Tryz.prog,mkEnv [],mkEnvR [],39,[],[],[]⟩
noncomputable def Fusize (F:Nat) (c:Int):Option Ans:=runF Gusize Tryz.f141 F [.p (.int .u8 c)]
theorem Fusize_eq (F:Nat) (c:Int):Fusize F c=cond (decide (c < (128:Int))) (some (.tup [.p (.int .i64 (1:Int)),.p (.int .i64 c)],[])) (((cond ((decide (c>=(192:Int)))&&(decide (c < (224:Int)))) (some (.tup [.p (.int .i64 (2:Int)),.p (.int .i64 (ibits .and .u8 c (31:Int)))],[])) (((cond ((decide (c>=(224:Int)))&&(decide (c < (240:Int)))) (some (.tup [.p (.int .i64 (3:Int)),.p (.int .i64 (ibits .and .u8 c (15:Int)))],[])) (((cond ((decide (c>=(240:Int)))&&(decide (c < (248:Int)))) (some (.tup [.p (.int .i64 (4:Int)),.p (.int .i64 (ibits .and .u8 c (7:Int)))],[])) (some (.tup [.p (.int .i64 (0:Int)),.p (.int .i64 (0:Int))],[]))))))))))):=by
 have h:Fusize F c=cond (decide (c < (128:Int))) (some (.tup [.p (.int .i64 (1:Int)),.p (.int .i64 c)],[])) (need ((decide (c>=(192:Int)))=true->(decide (c>=(192:Int)))=true) (need ((decide (c>=(192:Int)))=true->(decide (c>=(192:Int)))=true) (cond ((decide (c>=(192:Int)))&&(decide (c < (224:Int)))) (some (.tup [.p (.int .i64 (2:Int)),.p (.int .i64 (ibits .and .u8 c (31:Int)))],[])) (need ((decide (c>=(224:Int)))=true->(decide (c>=(224:Int)))=true) (need ((decide (c>=(224:Int)))=true->(decide (c>=(224:Int)))=true) (cond ((decide (c>=(224:Int)))&&(decide (c < (240:Int)))) (some (.tup [.p (.int .i64 (3:Int)),.p (.int .i64 (ibits .and .u8 c (15:Int)))],[])) (need ((decide (c>=(240:Int)))=true->(decide (c>=(240:Int)))=true) (need ((decide (c>=(240:Int)))=true->(decide (c>=(240:Int)))=true) (cond ((decide (c>=(240:Int)))&&(decide (c < (248:Int)))) (some (.tup [.p (.int .i64 (4:Int)),.p (.int .i64 (ibits .and .u8 c (7:Int)))],[])) (some (.tup [.p (.int .i64 (0:Int)),.p (.int .i64 (0:Int))],[]))))))))))):=by kernel_rfl
 rw [h,need_pos (show (decide (c>=(240:Int)))=true->(decide (c>=(240:Int)))=true from (fun q0=>q0)),need_pos (show (decide (c>=(240:Int)))=true->(decide (c>=(240:Int)))=true from (fun q0=>q0)),need_pos (show (decide (c>=(224:Int)))=true->(decide (c>=(224:Int)))=true from (fun q0=>q0)),need_pos (show (decide (c>=(224:Int)))=true->(decide (c>=(224:Int)))=true from (fun q0=>q0)),need_pos (show (decide (c>=(192:Int)))=true->(decide (c>=(192:Int)))=true from (fun q0=>q0)),need_pos (show (decide (c>=(192:Int)))=true->(decide (c>=(192:Int)))=true from (fun q0=>q0))]
theorem fn_usize (F:Nat) (c:Int) (r:AV) (h:(∃ M vs,ARels γ0 M [.p (.int .u8 c)] vs)->Fusize F c=some (r,[])):FnP Tryz.prog 141 [.p (.int .u8 c)] r:=
 FnP_run Gusize F rfl (EnvOk_mk (l:=[]) trivial) (EnvROk_mk (l:=[]) trivial) (Checked.mixed Tryz.checked) (fn:=Tryz.f141) (by kernel_rfl) (by kernel_rfl) rfl h
def usizeS (c:Int):Int×Int:=
 if c < 128 then (1,c) else if 192<=c/\c < 224 then (2,ibits .and .u8 c 31) else if 224<=c/\c < 240 then (3,ibits .and .u8 c 15) else if 240<=c/\c < 248 then (4,ibits .and .u8 c 7) else (0,0)
theorem usize_eq (c:Int):Fusize 0 c=some (.tup [.p (.int .i64 (usizeS c).1),.p (.int .i64 (usizeS c).2)],[]):=by
 rw [Fusize_eq,usizeS]
 by_cases c1:c < 128
 .refine cond_t (by simpa using c1) ?_
  rw [if_pos c1]
 .refine cond_f (by simpa using c1) ?_
  rw [if_neg c1]
  by_cases c2:192<=c/\c < 224
  .refine cond_t (by simpa using c2) ?_
   rw [if_pos c2]
  .refine cond_f (by simpa using c2) ?_
   rw [if_neg c2]
   by_cases c3:224<=c/\c < 240
   .refine cond_t (by simpa using c3) ?_
    rw [if_pos c3]
   .refine cond_f (by simpa using c3) ?_
    rw [if_neg c3]
    by_cases c4:240<=c/\c < 248
    .refine cond_t (by simpa using c4) ?_
     rw [if_pos c4]
    .refine cond_f (by simpa using c4) ?_
     rw [if_neg c4]
def sp_usize:List AV->Option (AV×Option Prop)
 | [.p (.int .u8 c)]=>some (.tup [.p (.int .i64 ((usizeS c).1)),.p (.int .i64 ((usizeS c).2))],none)
 | _=>none
theorem ok_usize:SpecOk Tryz.prog 141 sp_usize:=by
 intro zs r ok he hok
 unfold sp_usize at he
 split at he
 .cases he; exact ⟨by kernel_rfl,fn_usize 0 _ _ fun hx=>usize_eq _⟩
 .cases he
noncomputable def cuget:Code:=bodyOf Tryz.f109
noncomputable def Guget:Cfg:=⟨Tryz.prog,mkEnv [(77,sp_Put),(141,sp_usize)],mkEnvR [],64,[],[([1,0,1,1,1],⟨[0,1,4,6,33],[]⟩),([0,1,0,1,1,1,1],⟨[0,1,4,6,7],[]⟩),([1,1,0,0,1,0,1,1,1,1],⟨[0,1,4,6,7],[]⟩)],[]⟩
noncomputable def Buget_1 (F:Nat) (s:List UInt8) (i vi1 vi2:Int) (vc3:Bool):Option Ans:=runB Guget cuget (kP Tryz.prog Tryz.f109.results.toList) F [] [1,1,1,0,1] [(0,.p (.str s)),(1,.p (.int .i64 i)),(4,.p (.int .i64 vi1)),(6,.p (.int .i64 vi2)),(33,.p (.bool vc3))] []
noncomputable def Buget_2 (F f1:Nat) (s:List UInt8) (i vi4 vi2 vi5:Int):Option Ans:=runR Guget cuget (kP Tryz.prog Tryz.f109.results.toList) F [] [1,1,1,1,0,1,0] f1 [(0,.p (.str s)),(1,.p (.int .i64 i)),(4,.p (.int .i64 vi4)),(6,.p (.int .i64 vi2)),(7,.p (.int .i64 vi5))] []
noncomputable def Buget_3 (F f1:Nat) (s:List UInt8) (i vi6 vi2 vi5:Int):Option Ans:=runB Guget cuget (kP Tryz.prog Tryz.f109.results.toList) F [f1] [1,1,1,1,0,1,0,0,1,1] [(0,.p (.str s)),(1,.p (.int .i64 i)),(4,.p (.int .i64 vi6)),(6,.p (.int .i64 vi2)),(7,.p (.int .i64 vi5))] []
noncomputable def Fuget (F:Nat) (s:List UInt8) (i:Int):Option Ans:=runF Guget Tryz.f109 F [.p (.str s),.p (.int .i64 i)]
theorem Buget_1_eq (F:Nat) (s:List UInt8) (i vi1 vi2:Int) (vc3:Bool):Buget_1 F s i vi1 vi2 vc3=cond (vc3) (some (.tup [.p (.int .i64 (-1:Int)),.p (.int .i64 i)],[])) (Buget_2 F F s i vi1 vi2 (1:Int)):=by kernel_rfl
theorem Buget_2_eq (F f1:Nat) (s:List UInt8) (i vi4 vi2 vi5:Int):Buget_2 F (f1+1) s i vi4 vi2 vi5=cond (decide (vi5 < vi2)) ((need (i64ok (i+vi5)) (need (0<=(i+vi5)/\(i+vi5) < (s.length:Int)) (Buget_3 F f1 s i (ibits .or .i64 (IntKind.i64.wrap (vi4 * 64)) (ibits .and .u8 ((s.getD (i+vi5).toNat 0).toNat:Int) (63:Int))) vi2 vi5)))) (need (-1000000000000<=vi4/\vi4<=1000000000000) (need (i64ok (i+vi2)) (need (0<=i/\i<=(i+vi2)/\(i+vi2)<=(s.length:Int)) (cond ((putS vi4) != ((s.take (i+vi2).toNat).drop (i).toNat)) (some (.tup [.p (.int .i64 (-1:Int)),.p (.int .i64 i)],[])) (need (i64ok (i+vi2)) (some (.tup [.p (.int .i64 vi4),.p (.int .i64 (i+vi2))],[]))))))):=by
 have h:Buget_2 F (f1+1) s i vi4 vi2 vi5=cond (decide (vi5 < vi2)) (need (0<=(6:Int)) (need (i64ok (i+vi5)) (need (0<=(i+vi5)/\(i+vi5) < (s.length:Int)) (Buget_3 F f1 s i (ibits .or .i64 (IntKind.i64.wrap (vi4 * 64)) (ibits .and .u8 ((s.getD (i+vi5).toNat 0).toNat:Int) (63:Int))) vi2 vi5)))) (need (-1000000000000<=vi4/\vi4<=1000000000000) (need (i64ok (i+vi2)) (need (0<=i/\i<=(i+vi2)/\(i+vi2)<=(s.length:Int)) (cond ((putS vi4) != ((s.take (i+vi2).toNat).drop (i).toNat)) (some (.tup [.p (.int .i64 (-1:Int)),.p (.int .i64 i)],[])) (need (i64ok (i+vi2)) (some (.tup [.p (.int .i64 vi4),.p (.int .i64 (i+vi2))],[]))))))):=by kernel_rfl
 rw [h,need_pos (show 0<=(6:Int) from (by decide))]
theorem Buget_3_eq (F f1:Nat) (s:List UInt8) (i vi6 vi2 vi5:Int):Buget_3 F f1 s i vi6 vi2 vi5=need (i64ok (vi5+(1:Int))) (Buget_2 F f1 s i vi6 vi2 (vi5+(1:Int))):=by kernel_rfl
theorem Fuget_eq (F:Nat) (s:List UInt8) (i:Int):Fuget F s i=cond ((decide (i < (0:Int)))||(decide (i>=(s.length:Int)))) (some (.tup [.p (.int .i64 (-1:Int)),.p (.int .i64 i)],[])) (need (0<=i/\i < (s.length:Int)) (need ((!(((usizeS ((s.getD (i).toNat 0).toNat:Int)).1)==(0:Int)))=true->i64ok ((s.length:Int) - i)) (Buget_1 F s i ((usizeS ((s.getD (i).toNat 0).toNat:Int)).2) ((usizeS ((s.getD (i).toNat 0).toNat:Int)).1) ((((usizeS ((s.getD (i).toNat 0).toNat:Int)).1)==(0:Int))||(decide (((usizeS ((s.getD (i).toNat 0).toNat:Int)).1) > ((s.length:Int) - i))))))):=
 Eq.trans (show Fuget F s i=need ((!(decide (i < (0:Int))))=true->(!(decide (i < (0:Int))))=true) (need ((!(decide (i < (0:Int))))=true->(!(decide (i < (0:Int))))=true) (need ((!(decide (i < (0:Int))))=true->(!(decide (i < (0:Int))))=true) (need ((decide (i < (0:Int)))=false->(!(decide (i < (0:Int))))=true) (cond ((decide (i < (0:Int)))||(decide (i>=(s.length:Int)))) (some (.tup [.p (.int .i64 (-1:Int)),.p (.int .i64 i)],[])) (need (0<=i/\i < (s.length:Int)) (need ((!(((usizeS ((s.getD (i).toNat 0).toNat:Int)).1)==(0:Int)))=true->(!(((usizeS ((s.getD (i).toNat 0).toNat:Int)).1)==(0:Int)))=true) (need ((!(((usizeS ((s.getD (i).toNat 0).toNat:Int)).1)==(0:Int)))=true->(!(((usizeS ((s.getD (i).toNat 0).toNat:Int)).1)==(0:Int)))=true) (need ((!(((usizeS ((s.getD (i).toNat 0).toNat:Int)).1)==(0:Int)))=true->(!(((usizeS ((s.getD (i).toNat 0).toNat:Int)).1)==(0:Int)))=true) (need ((!(((usizeS ((s.getD (i).toNat 0).toNat:Int)).1)==(0:Int)))=true->i64ok ((s.length:Int) - i)) (need ((!(((usizeS ((s.getD (i).toNat 0).toNat:Int)).1)==(0:Int)))=true->(!(((usizeS ((s.getD (i).toNat 0).toNat:Int)).1)==(0:Int)))=true) (need ((!(((usizeS ((s.getD (i).toNat 0).toNat:Int)).1)==(0:Int)))=true->(!(((usizeS ((s.getD (i).toNat 0).toNat:Int)).1)==(0:Int)))=true) (need ((((usizeS ((s.getD (i).toNat 0).toNat:Int)).1)==(0:Int))=false->(!(((usizeS ((s.getD (i).toNat 0).toNat:Int)).1)==(0:Int)))=true) (Buget_1 F s i ((usizeS ((s.getD (i).toNat 0).toNat:Int)).2) ((usizeS ((s.getD (i).toNat 0).toNat:Int)).1) ((((usizeS ((s.getD (i).toNat 0).toNat:Int)).1)==(0:Int))||(decide (((usizeS ((s.getD (i).toNat 0).toNat:Int)).1) > ((s.length:Int) - i))))))))))))))))) by kernel_rfl) (need_strike (show (!(decide (i < (0:Int))))=true->(!(decide (i < (0:Int))))=true from (fun q0=>q0)) (need_strike (show (!(decide (i < (0:Int))))=true->(!(decide (i < (0:Int))))=true from (fun q0=>q0)) (need_strike (show (!(decide (i < (0:Int))))=true->(!(decide (i < (0:Int))))=true from (fun q0=>q0)) (need_strike (show (decide (i < (0:Int)))=false->(!(decide (i < (0:Int))))=true from (fun q0=>(not_mk q0))) (cond_congr (rfl) (need_congr (need_strike (show (!(((usizeS ((s.getD (i).toNat 0).toNat:Int)).1)==(0:Int)))=true->(!(((usizeS ((s.getD (i).toNat 0).toNat:Int)).1)==(0:Int)))=true from (fun q0=>q0)) (need_strike (show (!(((usizeS ((s.getD (i).toNat 0).toNat:Int)).1)==(0:Int)))=true->(!(((usizeS ((s.getD (i).toNat 0).toNat:Int)).1)==(0:Int)))=true from (fun q0=>q0)) (need_strike (show (!(((usizeS ((s.getD (i).toNat 0).toNat:Int)).1)==(0:Int)))=true->(!(((usizeS ((s.getD (i).toNat 0).toNat:Int)).1)==(0:Int)))=true from (fun q0=>q0)) (need_congr (need_strike (show (!(((usizeS ((s.getD (i).toNat 0).toNat:Int)).1)==(0:Int)))=true->(!(((usizeS ((s.getD (i).toNat 0).toNat:Int)).1)==(0:Int)))=true from (fun q0=>q0)) (need_strike (show (!(((usizeS ((s.getD (i).toNat 0).toNat:Int)).1)==(0:Int)))=true->(!(((usizeS ((s.getD (i).toNat 0).toNat:Int)).1)==(0:Int)))=true from (fun q0=>q0)) (need_strike (show (((usizeS ((s.getD (i).toNat 0).toNat:Int)).1)==(0:Int))=false->(!(((usizeS ((s.getD (i).toNat 0).toNat:Int)).1)==(0:Int)))=true from (fun q0=>(not_mk q0))) (rfl))))))))))))))
theorem fn_uget (F:Nat) (s:List UInt8) (i:Int) (r:AV) (h:(∃ M vs,ARels γ0 M [.p (.str s),.p (.int .i64 i)] vs)->Fuget F s i=some (r,[])):FnP Tryz.prog 109 [.p (.str s),.p (.int .i64 i)] r:=
 FnP_run Guget F rfl (EnvOk_mk (l:=[(77,sp_Put),(141,sp_usize)]) ⟨ok_Put.any,ok_usize.any,trivial⟩) (EnvROk_mk (l:=[]) trivial) (Checked.mixed Tryz.checked) (fn:=Tryz.f109) (by kernel_rfl) (by kernel_rfl) rfl h
theorem Buget_spec (F:Nat) (s:List UInt8) (hs:s.length<=1000000) (i n:Nat) (h:i+n<=s.length) (hn:n<=4):∀ (m f j v:Nat),j+m=n->m < f->1<=j->v < 8 * 64 ^ (4 - m)->
 Buget_2 F f s (i:Int) (v:Int) (n:Int) (j:Int)=some (getT (finV s i n (foldV v ((s.drop (i+j)).take m))),[]):=by
 intro m
 induction m with
 | zero=>
  intro f j v hj hf h1 hv
  cases f with
  | zero=>omega
  | succ f=>
   have hv:v < 134217728:=by simpa using hv
   rw [Buget_2_eq]
   refine cond_f (by first | omega | (unfold i64ok; omega) | (simp only [List.length_cons,List.length_nil]; omega) | (simp; omega) | simp) ?_
   refine need_mk (by first | omega | (unfold i64ok; omega) | (simp only [List.length_cons,List.length_nil]; omega) | (simp; omega) | simp) ?_
   refine need_mk (by first | omega | (unfold i64ok; omega) | (simp only [List.length_cons,List.length_nil]; omega) | (simp; omega) | simp) ?_
   refine need_mk (by first | omega | (unfold i64ok; omega) | (simp only [List.length_cons,List.length_nil]; omega) | (simp; omega) | simp) ?_
   have e1:((i:Int)+(n:Int)).toNat=i+n:=by omega
   rw [e1,show ((i:Int)).toNat=i from rfl,fin_drop]
   simp only [List.take_zero,foldV,finV]
   by_cases hp:putS (v:Int)=(s.drop i).take n
   .refine cond_f (by simp [hp]) ?_
    refine need_mk (by first | omega | (unfold i64ok; omega) | (simp only [List.length_cons,List.length_nil]; omega) | (simp; omega) | simp) ?_
    rw [if_pos hp]; rfl
   .refine cond_t (by simpa using hp) ?_
    rw [if_neg hp]; rfl
 | succ m ih=>
  intro f j v hj hf h1 hv
  cases f with
  | zero=>omega
  | succ f=>
   have hv2:v < 134217728:=Nat.lt_of_lt_of_le hv (by
    have:(64:Nat) ^ (4 - (m+1))<=64 ^ 4:=Nat.pow_le_pow_right (by decide) (by omega)
    have e:(64:Nat) ^ 4=16777216:=rfl
    omega)
   rw [Buget_2_eq]
   refine cond_t (by first | omega | (unfold i64ok; omega) | (simp only [List.length_cons,List.length_nil]; omega) | (simp; omega) | simp) ?_
   refine need_mk (by first | omega | (unfold i64ok; omega) | (simp only [List.length_cons,List.length_nil]; omega) | (simp; omega) | simp) ?_
   refine need_mk (by first | omega | (unfold i64ok; omega) | (simp only [List.length_cons,List.length_nil]; omega) | (simp; omega) | simp) ?_
   have e1:((i:Int)+(j:Int)).toNat=i+j:=by omega
   rw [e1,Buget_3_eq,step6 v _ hv2]
   refine need_mk (by first | omega | (unfold i64ok; omega) | (simp only [List.length_cons,List.length_nil]; omega) | (simp; omega) | simp) ?_
   have e2:(j:Int)+1=((j+1:Nat):Int):=by omega
   rw [e2,ih f (j+1) _ (by omega) (by omega) (by omega) ?_,take_cons (by omega),foldV]
   .rfl
   .have:4 - m=(4 - (m+1))+1:=by omega
    rw [this,Nat.pow_succ]; omega
theorem putN_len (n:Nat):(putN n).length<=4/\1<=(putN n).length:=by unfold putN; split <;> (try split) <;> (try split) <;> simp
theorem putS_head {v:Nat} {c:UInt8} {r:List UInt8} (h:putS (v:Int)=c::r) (h4:r.length=3):240<=c.toNat/\c.toNat < 248:=by
 unfold putS at h
 split at h
 .cases h
 .rename_i hb
  have hv:v<=1114111:=by unfold badR at hb; omega
  rw [show ((v:Int)).toNat=v from rfl] at h
  unfold putN at h
  split at h
  .cases h; cases h4
  .split at h
   .cases h; cases h4
   .split at h
    .cases h; cases h4
    .cases h
     rw [UInt8.toNat_ofNat']
     omega
theorem getS_none {s:List UInt8} {i:Nat} {c:UInt8} (hi:i < s.length) (hc:s.getD i 0=c) (h:(128<=c.toNat/\c.toNat < 192)\/248<=c.toNat):getS s (i:Int)=(-1,(i:Int)):=by
 rw [getS,if_neg (by omega)]
 rw [show ((i:Int)).toNat=i from rfl]
 dsimp only
 rw [hc]
 split
 .rfl
 .rename_i hl
  rw [finV,if_neg ?_]
  intro e
  have hlen:=congrArg List.length e
  have htl:((s.drop i).take (szN c)).length=szN c:=by simp; omega
  rw [htl] at hlen
  rcases h with h | h
  .have hz:szN c=1:=by unfold szN; rw [if_neg (by omega),if_neg (by omega),if_neg (by omega)]
   have hv:v0 c=c.toNat:=by unfold v0; rw [if_neg (by omega),if_neg (by omega),if_neg (by omega)]
   rw [hz,hv] at hlen
   simp only [Nat.sub_self,List.take_zero,foldV] at hlen
   unfold putS at hlen
   rw [if_neg (by unfold badR; omega),show ((c.toNat:Int)).toNat=c.toNat from rfl,putN,if_neg (by omega),if_pos (by omega)] at hlen
   cases hlen
  .have hz:szN c=4:=by unfold szN; rw [if_pos (by omega)]
   rw [hz] at e
   rw [take_cons hi,hc] at e
   have:=putS_head e (by simp; omega)
   omega
theorem uget_eq (s:List UInt8) (i:Int) (h:posok s i):Fuget 10 s i=some (getT (getS s i),[]):=by
 obtain ⟨h0,h1,h2⟩:=h
 obtain ⟨i,rfl⟩:=Int.eq_ofNat_of_zero_le h0
 rw [Fuget_eq]
 by_cases hb:((i:Int) < 0\/(i:Int)>=s.length)
 .refine cond_t (by simpa using hb) ?_
  rw [getS,if_pos hb]; rfl
 .refine cond_f (by simpa using hb) ?_
  have hi:i < s.length:=by omega
  refine need_mk (by first | omega | (unfold i64ok; omega) | (simp only [List.length_cons,List.length_nil]; omega) | (simp; omega) | simp) ?_
  refine need_mk (fun _=>by unfold i64ok; omega) ?_
  rw [show ((i:Int)).toNat=i from rfl]
  generalize hc:s.getD i 0=c
  have hlt:=c.toNat_lt
  by_cases hn:(128<=c.toNat/\c.toNat < 192)\/248<=c.toNat
  .have hz:usizeS (c.toNat:Int)=(0,0):=by unfold usizeS; rw [if_neg (by omega),if_neg (by omega),if_neg (by omega),if_neg (by omega)]
   rw [getS_none hi hc hn,hz,Buget_1_eq]
   exact cond_t rfl rfl
  .have key:∀ n v:Nat,usizeS (c.toNat:Int)=((n:Int),(v:Int))->n=szN c->v=v0 c->1<=n->n<=4->v < 8 * 64 ^ (4 - (n - 1))->
    Buget_1 10 s (i:Int) (usizeS (c.toNat:Int)).2 (usizeS (c.toNat:Int)).1 (((usizeS (c.toNat:Int)).1==(0:Int))||(decide ((usizeS (c.toNat:Int)).1 > ((s.length:Int) - (i:Int)))))=some (getT (getS s i),[]):=by
    intro n v hu hn hv h1n h4n hv8
    rw [hu,Buget_1_eq,getS,if_neg hb,show ((i:Int)).toNat=i from rfl]
    dsimp only
    rw [hc,<-hn,<-hv]
    by_cases hl:n > s.length - i
    .refine cond_t (by simp; omega) ?_
     rw [if_pos hl]; rfl
    .refine cond_f (by simp; omega) ?_
     rw [if_neg hl]
     exact Buget_spec 10 s h2 i n (by omega) h4n (n - 1) 10 1 v (by omega) (by omega) (by omega) hv8
   by_cases c1:240<=c.toNat
   .exact key 4 (c.toNat % 8) (by unfold usizeS; rw [if_neg (by omega),if_neg (by omega),if_neg (by omega),if_pos (by omega),(and_lo c).2.1]; rfl) (by rw [szN,if_pos c1]) (by rw [v0,if_pos c1]) (by decide) (by decide) (by simp; omega)
   .by_cases c2:224<=c.toNat
    .exact key 3 (c.toNat % 16) (by unfold usizeS; rw [if_neg (by omega),if_neg (by omega),if_pos (by omega),(and_lo c).2.2.1]; rfl) (by rw [szN,if_neg c1,if_pos c2]) (by rw [v0,if_neg c1,if_pos c2]) (by decide) (by decide) (by simp; omega)
    .by_cases c3:192<=c.toNat
     .exact key 2 (c.toNat % 32) (by unfold usizeS; rw [if_neg (by omega),if_pos (by omega),(and_lo c).2.2.2]; rfl) (by rw [szN,if_neg c1,if_neg c2,if_pos c3]) (by rw [v0,if_neg c1,if_neg c2,if_pos c3]) (by decide) (by decide) (by simp; omega)
     .exact key 1 c.toNat (by unfold usizeS; rw [if_pos (by omega)]; rfl) (by rw [szN,if_neg c1,if_neg c2,if_neg c3]) (by rw [v0,if_neg c1,if_neg c2,if_neg c3]) (by decide) (by decide) (by simp; omega)
def sp_uget:List AV->Option (AV×Option Prop)
 | [.p (.str s),.p (.int .i64 i)]=>some (.tup [.p (.int .i64 ((getS s i).1)),.p (.int .i64 ((getS s i).2))],some (posok s i))
 | _=>none
theorem ok_uget:SpecOk Tryz.prog 109 sp_uget:=by
 intro zs r ok he hok
 unfold sp_uget at he
 split at he
 .cases he; exact ⟨by kernel_rfl,fn_uget 10 _ _ _ fun hx=>uget_eq _ _ hok⟩
 .cases he
end Go.Proofs.YtampckbjinodgaaGreatDoor
namespace Go.Proofs.YtampckbjinodgaaGreatDoor
open Go Go.Am
set_option linter.unusedVariables false
theorem szN_pos (c:UInt8):1<=szN c/\szN c<=4:=by unfold szN; split <;> (try split) <;> (try split) <;> omega
theorem getS_next {s:List UInt8} {i:Nat} (h:¬ (getS s (i:Int)).1 < 0):∃ n:Nat,(getS s (i:Int)).2=(n:Int)/\i < n/\n<=s.length:=by
 unfold getS at *
 by_cases hb:((i:Int) < 0\/(i:Int)>=s.length)
 .rw [if_pos hb] at h; exact absurd (show (-1:Int) < 0 by decide) h
 .rw [if_neg hb] at *
  rw [show ((i:Int)).toNat=i from rfl] at *
  dsimp only at *
  by_cases hl:szN (s.getD i 0) > s.length - i
  .rw [if_pos hl] at h; exact absurd (show (-1:Int) < 0 by decide) h
  .rw [if_neg hl] at *
   unfold finV at *
   split at h
   .rename_i hp
    rw [if_pos hp]
    have:=szN_pos (s.getD i 0)
    exact ⟨i+szN (s.getD i 0),by simp,by omega,by omega⟩
   .exact absurd (show (-1:Int) < 0 by decide) h
def validF:Nat->List UInt8->Int->Bool
 | 0,_,_=>true
 | f+1,s,i=>if i < s.length then if (getS s i).1 < 0 then false else validF f s (getS s i).2 else true
def validS (s:List UInt8):Bool:=validF (s.length+1) s 0
noncomputable def cuvalid:Code:=bodyOf Tryz.f75
noncomputable def Guvalid:Cfg:=⟨Tryz.prog,mkEnv [(109,sp_uget)],mkEnvR [],19,[],[([0,0,1,1],⟨[0,3],[]⟩)],[]⟩
noncomputable def Buvalid_1 (F f1:Nat) (s:List UInt8) (vi1:Int):Option Ans:=runR Guvalid cuvalid (kP Tryz.prog Tryz.f75.results.toList) F [] [1,1,0,0] f1 [(0,.p (.str s)),(3,.p (.int .i64 vi1))] []
noncomputable def Fuvalid (F:Nat) (s:List UInt8):Option Ans:=runF Guvalid Tryz.f75 F [.p (.str s)]
theorem Buvalid_1_eq (F f1:Nat) (s:List UInt8) (vi1:Int):Buvalid_1 F (f1+1) s vi1=cond (decide (vi1 < (s.length:Int))) (need (posok s vi1) (cond (decide (((getS s vi1).1) < (0:Int))) (some (.p (.bool false),[])) (Buvalid_1 F f1 s ((getS s vi1).2)))) (some (.p (.bool true),[])):=by kernel_rfl
theorem Fuvalid_eq (F:Nat) (s:List UInt8):Fuvalid F s=Buvalid_1 F F s (0:Int):=by kernel_rfl
theorem fn_uvalid (F:Nat) (s:List UInt8) (r:AV) (h:(∃ M vs,ARels γ0 M [.p (.str s)] vs)->Fuvalid F s=some (r,[])):FnP Tryz.prog 75 [.p (.str s)] r:=
 FnP_run Guvalid F rfl (EnvOk_mk (l:=[(109,sp_uget)]) ⟨ok_uget.any,trivial⟩) (EnvROk_mk (l:=[]) trivial) (Checked.mixed Tryz.checked) (fn:=Tryz.f75) (by kernel_rfl) (by kernel_rfl) rfl h
theorem Buvalid_spec (F:Nat) (s:List UInt8) (hs:s.length<=1000000):∀ (f i:Nat),s.length - i < f->i<=s.length->Buvalid_1 F f s (i:Int)=some (.p (.bool (validF f s (i:Int))),[]):=by
 intro f
 induction f with
 | zero=>intro i h; omega
 | succ f ih=>
  intro i hf hi
  rw [Buvalid_1_eq,validF]
  by_cases h1:(i:Int) < s.length
  .refine cond_t (by simpa using h1) (need_mk ⟨by omega,by omega,hs⟩ ?_)
   rw [if_pos h1]
   by_cases h2:(getS s (i:Int)).1 < 0
   .refine cond_t (by simpa using h2) ?_
    rw [if_pos h2]
   .refine cond_f (by simpa using h2) ?_
    rw [if_neg h2]
    obtain ⟨n,e,h3,h4⟩:=getS_next h2
    rw [e]
    exact ih n (by omega) h4
  .refine cond_f (by simpa using h1) ?_
   rw [if_neg h1]
theorem uvalid_eq (s:List UInt8) (hs:s.length<=1000000):Fuvalid (s.length+1) s=some (.p (.bool (validS s)),[]):=by
 rw [Fuvalid_eq]
 exact Buvalid_spec _ s hs (s.length+1) 0 (by omega) (by omega)
def sp_uvalid:List AV->Option (AV×Option Prop)
 | [.p (.str s)]=>some (.p (.bool (validS s)),some (s.length<=1000000))
 | _=>none
theorem ok_uvalid:SpecOk Tryz.prog 75 sp_uvalid:=by
 intro zs r ok he hok
 unfold sp_uvalid at he
 split at he
 .cases he; exact ⟨by kernel_rfl,fn_uvalid (_) _ _ fun hx=>uvalid_eq _ hok⟩
 .cases he
theorem putS_len (v:Int):(putS v).length<=4:=by
 unfold putS
 split
 .simp
 .exact (putN_len _).1
end Go.Proofs.YtampckbjinodgaaGreatDoor
namespace Go.Proofs.YtampckbjinodgaaGreatDoor
open Go Go.Am
set_option linter.unusedVariables false
def bytesS (s:List UInt8):List UInt8:=s.flatMap fun c=>putS (c.toNat:Int)
end Go.Proofs.YtampckbjinodgaaGreatDoor
namespace Go.Proofs.YtampckbjinodgaaGreatDoor
open Go Go.Am
set_option linter.unusedVariables false
noncomputable def cFold:Code:=bodyOf Tryz.f27
noncomputable def GFold:Cfg:=⟨Tryz.prog,mkEnv [],mkEnvR [],32,[],[([0,1,0,1,1],⟨[0,3,10,11],[⟨.slot 3,3,(.barr 5 false [])⟩]⟩),([1,0,1,1,0,0,1,1,0,0,1,0,1,1],⟨[0,3,5,10,11,22],[⟨.slot 3,3,(.barr 5 false [])⟩]⟩),([1,1,1,0,0,1,1,0,0,1,0,1,1],⟨[0,3,5,10,11],[⟨.slot 3,3,(.barr 5 false [])⟩]⟩)],[]⟩
noncomputable def BFold_1 (F f1:Nat) (s:List UInt8) (vi1 vi2:Int) (vb3:List UInt8):Option Ans:=runR GFold cFold (kP Tryz.prog Tryz.f27.results.toList) F [] [1,1,0,1,0] f1 [(0,.p (.str s)),(3,.arr 3),(10,.p (.int .i64 vi1)),(11,.p (.int .i64 vi2))] [(3,.barr 5 true vb3)]
noncomputable def BFold_2 (F f1:Nat) (s:List UInt8) (vi4 vi1 vi2:Int) (vc5:Bool) (vb3:List UInt8):Option Ans:=runB GFold cFold (kP Tryz.prog Tryz.f27.results.toList) F [f1] [1,1,0,1,0,0,1,1,0,0,1,1,0,1] [(0,.p (.str s)),(3,.arr 3),(5,.p (.int .u8 vi4)),(10,.p (.int .i64 vi1)),(11,.p (.int .i64 vi2)),(22,.p (.bool vc5))] [(3,.barr 5 true vb3)]
noncomputable def BFold_3 (F f1:Nat) (s:List UInt8) (vi6 vi1 vi2:Int) (vb3:List UInt8):Option Ans:=runB GFold cFold (kP Tryz.prog Tryz.f27.results.toList) F [f1] [1,1,0,1,0,0,1,1,0,0,1,1,1] [(0,.p (.str s)),(3,.arr 3),(5,.p (.int .u8 vi6)),(10,.p (.int .i64 vi1)),(11,.p (.int .i64 vi2))] [(3,.barr 5 true vb3)]
noncomputable def FFold (F:Nat) (s:List UInt8):Option Ans:=runF GFold Tryz.f27 F [.p (.str s)]
theorem BFold_1_eq (F f1:Nat) (s:List UInt8) (vi1 vi2:Int) (vb3:List UInt8):BFold_1 F (f1+1) s vi1 vi2 vb3=cond (decide (vi2 < vi1)) (need (0<=vi2/\vi2 < (s.length:Int)) (((BFold_2 F f1 s ((s.getD (vi2).toNat 0).toNat:Int) vi1 vi2 ((decide (((s.getD (vi2).toNat 0).toNat:Int)>=(65:Int)))&&(decide (((s.getD (vi2).toNat 0).toNat:Int)<=(90:Int)))) vb3)))) (some (.p (.str vb3),[])):=by
 have h:BFold_1 F (f1+1) s vi1 vi2 vb3=cond (decide (vi2 < vi1)) (need (0<=vi2/\vi2 < (s.length:Int)) (need ((decide (((s.getD (vi2).toNat 0).toNat:Int)>=(65:Int)))=true->(decide (((s.getD (vi2).toNat 0).toNat:Int)>=(65:Int)))=true) (need ((decide (((s.getD (vi2).toNat 0).toNat:Int)>=(65:Int)))=true->(decide (((s.getD (vi2).toNat 0).toNat:Int)>=(65:Int)))=true) (BFold_2 F f1 s ((s.getD (vi2).toNat 0).toNat:Int) vi1 vi2 ((decide (((s.getD (vi2).toNat 0).toNat:Int)>=(65:Int)))&&(decide (((s.getD (vi2).toNat 0).toNat:Int)<=(90:Int)))) vb3)))) (some (.p (.str vb3),[])):=by kernel_rfl
 rw [h,need_pos (show (decide (((s.getD (vi2).toNat 0).toNat:Int)>=(65:Int)))=true->(decide (((s.getD (vi2).toNat 0).toNat:Int)>=(65:Int)))=true from (fun q0=>q0)),need_pos (show (decide (((s.getD (vi2).toNat 0).toNat:Int)>=(65:Int)))=true->(decide (((s.getD (vi2).toNat 0).toNat:Int)>=(65:Int)))=true from (fun q0=>q0))]
theorem BFold_2_eq (F f1:Nat) (s:List UInt8) (vi4 vi1 vi2:Int) (vc5:Bool) (vb3:List UInt8):BFold_2 F f1 s vi4 vi1 vi2 vc5 vb3=cond (vc5) (BFold_3 F f1 s (IntKind.u8.wrap (vi4+(32:Int))) vi1 vi2 vb3) (BFold_3 F f1 s vi4 vi1 vi2 vb3):=by kernel_rfl
theorem BFold_3_eq (F f1:Nat) (s:List UInt8) (vi6 vi1 vi2:Int) (vb3:List UInt8):BFold_3 F f1 s vi6 vi1 vi2 vb3=need ((vb3.length+[UInt8.ofNat (vi6).toNat].length) * 1<=140737488355328) (need (i64ok (vi2+(1:Int))) (BFold_1 F f1 s vi1 (vi2+(1:Int)) (vb3++[UInt8.ofNat (vi6).toNat]))):=by kernel_rfl
theorem FFold_eq (F:Nat) (s:List UInt8):FFold F s=need (0<=(0:Int)/\(0:Int)<=(s.length:Int)/\(1:Int) * (s.length:Int)<=281474976710656/\(s.length:Int)<=9223372036854775807) (BFold_1 F F s (s.length:Int) (0:Int) (List.replicate ((0:Int)).toNat 0)):=by kernel_rfl
theorem fn_Fold (F:Nat) (s:List UInt8) (r:AV) (h:(∃ M vs,ARels γ0 M [.p (.str s)] vs)->FFold F s=some (r,[])):FnP Tryz.prog 27 [.p (.str s)] r:=
 FnP_run GFold F rfl (EnvOk_mk (l:=[]) trivial) (EnvROk_mk (l:=[]) trivial) (Checked.mixed Tryz.checked) (fn:=Tryz.f27) (by kernel_rfl) (by kernel_rfl) rfl h
def lowB (b:UInt8):UInt8:=if 65<=b.toNat/\b.toNat<=90 then b+32 else b
def foldS (s:List UInt8):List UInt8:=s.map lowB
theorem low_up (b:UInt8) (h:65<=b.toNat/\b.toNat<=90):UInt8.ofNat (IntKind.u8.wrap ((b.toNat:Int)+(32:Int))).toNat=lowB b:=by
 have e:((b.toNat:Int)+32)=((b.toNat+32:Nat):Int):=by omega
 rw [e,u8_of,lowB,if_pos h]
 apply UInt8.toNat_inj.1
 rw [UInt8.toNat_ofNat',UInt8.toNat_add]; rfl
theorem low_id (b:UInt8) (h:¬ (65<=b.toNat/\b.toNat<=90)):UInt8.ofNat ((b.toNat:Int)).toNat=lowB b:=by
 rw [lowB,if_neg h,Int.toNat_natCast,UInt8.ofNat_toNat]
theorem up_dec (b:UInt8):((decide ((b.toNat:Int)>=(65:Int)))&&(decide ((b.toNat:Int)<=(90:Int))))=decide (65<=b.toNat/\b.toNat<=90):=by
 rw [<-Bool.decide_and]; exact decide_eq_decide.2 (by omega)
theorem BFold_spec (F:Nat) (s:List UInt8) (hs:s.length<=140737488355328):∀ (r:List UInt8) (f i:Nat) (acc:List UInt8),s.drop i=r->acc.length=i->r.length < f->i<=s.length->
 BFold_1 F f s (s.length:Int) (i:Int) acc=some (.p (.str (acc++r.map lowB)),[]):=by
 intro r
 induction r with
 | nil=>
  intro f i acc hd ha hf hi
  have:i=s.length:=by have:=congrArg List.length hd; simp at this; omega
  cases f with
  | zero=>omega
  | succ f=>
   rw [BFold_1_eq]
   refine cond_f (by first | omega | (unfold i64ok; omega) | (simp only [List.length_cons,List.length_nil]; omega) | (simp; omega) | simp) ?_
   simp
 | cons c r ih=>
  intro f i acc hd ha hf hi
  obtain ⟨h1,h2,h3⟩:=drop_cons hd
  cases f with
  | zero=>omega
  | succ f=>
   rw [BFold_1_eq]
   refine cond_t (by first | omega | (unfold i64ok; omega) | (simp only [List.length_cons,List.length_nil]; omega) | (simp; omega) | simp) ?_
   refine need_mk (by first | omega | (unfold i64ok; omega) | (simp only [List.length_cons,List.length_nil]; omega) | (simp; omega) | simp) ?_
   rw [Int.toNat_natCast,h1,BFold_2_eq,up_dec]
   have e:(i:Int)+1=((i+1:Nat):Int):=by omega
   have step:∀ d,BFold_1 F f s (s.length:Int) ((i:Int)+1) (acc++[d])=some (.p (.str (acc++d::r.map lowB)),[]):=fun d=>by
    rw [e,ih f (i+1) (acc++[d]) h2 (by simp [ha]) (by simp at hf; omega) (by omega)]; simp
   by_cases hc:65<=c.toNat/\c.toNat<=90
   .refine cond_t (by simpa using hc) ?_
    rw [BFold_3_eq]
    refine need_mk (by first | omega | (unfold i64ok; omega) | (simp only [List.length_cons,List.length_nil]; omega) | (simp; omega) | simp) ?_
    refine need_mk (by first | omega | (unfold i64ok; omega) | (simp only [List.length_cons,List.length_nil]; omega) | (simp; omega) | simp) ?_
    rw [low_up c hc,step]; rfl
   .refine cond_f (by simpa using hc) ?_
    rw [BFold_3_eq]
    refine need_mk (by first | omega | (unfold i64ok; omega) | (simp only [List.length_cons,List.length_nil]; omega) | (simp; omega) | simp) ?_
    refine need_mk (by first | omega | (unfold i64ok; omega) | (simp only [List.length_cons,List.length_nil]; omega) | (simp; omega) | simp) ?_
    rw [low_id c hc,step]; rfl
theorem Fold_eq (s:List UInt8) (hs:s.length<=140737488355328):FFold (s.length+1) s=some (.p (.str (foldS s)),[]):=by
 rw [FFold_eq]
 refine need_mk (by first | omega | (unfold i64ok; omega) | (simp only [List.length_cons,List.length_nil]; omega) | (simp; omega) | simp) ?_
 exact BFold_spec _ s hs s (s.length+1) 0 [] rfl rfl (by omega) (by omega)
def sp_Fold:List AV->Option (AV×Option Prop)
 | [.p (.str s)]=>some (.p (.str (foldS s)),some (s.length<=140737488355328))
 | _=>none
theorem ok_Fold:SpecOk Tryz.prog 27 sp_Fold:=by
 intro zs r ok he hok
 unfold sp_Fold at he
 split at he
 .cases he; exact ⟨by kernel_rfl,fn_Fold (_) _ _ fun hx=>Fold_eq _ hok⟩
 .cases he
end Go.Proofs.YtampckbjinodgaaGreatDoor
namespace Go.Proofs.YtampckbjinodgaaGreatDoor
open Go Go.Am
set_option linter.unusedVariables false
def ixS (s:List UInt8) (c:Int):Int:=Lib.indexByte s c.toNat.toUInt8
def sp_extib:List AV->Option (AV×Option Prop)
 | [.p (.str s),.p (.int .u8 c)]=>some (.p (.int .i64 (ixS s c)),none)
 | _=>none
theorem indexByte_lt (l:List UInt8) (c:UInt8):Lib.indexByte l c < l.length\/Lib.indexByte l c=-1:=by
 induction l with
 | nil=>right; rfl
 | cons b l ih=>
  unfold Lib.indexByte
  split
  .left; simp
  .split
   .right; rfl
   .left; rename_i h1 h2; simp at h2; simp; omega
theorem ok_extib:SpecExt Tryz.prog 140 sp_extib:=by
 intro zs r ok h hok M w vs hM hvs
 unfold sp_extib at h
 split at h
 .rename_i s c
  cases h
  cases hvs with
  | cons h1 h2=>cases h2 with
   | cons h2 h3=>
    cases h3
    cases h1 with | p _ _ h1=>
    cases h2 with | p _ _ h2=>
    cases h1 with | str _ hs=>
    cases h2 with | int _ _ hc=>
    refine ⟨.int .i64 (ixS s c),?_,.p _ _ (.int _ _ ?_)⟩
    .rw [run_callFunc_extern (fn:=Tryz.f140) (e:=Extern.BytealgIndexByte.indexByte) (by kernel_rfl) (by kernel_rfl) (by kernel_rfl) (by kernel_rfl) (by kernel_rfl)]
     rw [Lib.run_indexByteString]; rfl
    .have h1:=Lib.indexByte_ge s c.toNat.toUInt8
     have h2:=indexByte_lt s c.toNat.toUInt8
     exact has_i64 (by unfold maxLen at hs; unfold i64ok ixS; omega)
 .cases h
end Go.Proofs.YtampckbjinodgaaGreatDoor
