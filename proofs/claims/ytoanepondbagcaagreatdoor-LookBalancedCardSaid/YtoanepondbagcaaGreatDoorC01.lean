/-
  Lifted functions, and facts about them.
-/
import Derived.WalkKit
import Derived.Test.YtoanepondbagcaaGreatDoorAmC
import Derived.Test.YtoanepondbagcaaGreatDoorRows
set_option linter.unusedVariables false
namespace Go.Proofs.YtoanepondbagcaaGreatDoor
def LB_208aacab:List UInt8:=[83,117,98,106,101,99,116,58,32,61,63,117,116,102,45,56,63,81,63,97,63,61,10,10]
def LB_476f38ec:List UInt8:=[99,111,110,116,101,110,116,45,100,105,115,112,111,115,105,116,105,111,110]
def LB_7543b37f:List UInt8:=[65,66,67,68,69,70,71,72,73,74,75,76,77,78,79,80,81,82,83,84,85,86,87,88,89,90,97,98,99,100,101,102,103,104,105,106,107,108,109,110,111,112,113,114,115,116,117,118,119,120,121,122,48,49,50,51,52,53,54,55,56,57,43,47]
def LB_7e72d125:List UInt8:=[99,111,110,116,101,110,116,45,116,114,97,110,115,102,101,114,45,101,110,99,111,100,105,110,103]
def LB_b9b80970:List UInt8:=[40,78,73,76,32,78,73,76,32,78,73,76,32,78,73,76,32,78,73,76,32,78,73,76,32,78,73,76,32,78,73,76,32,78,73,76,32,78,73,76,41]
end Go.Proofs.YtoanepondbagcaaGreatDoor
namespace Go.Am
open Go Go.RowKit
theorem need_congr {p:Prop} {x y:Option Ans} (h:x=y):need p x=need p y:=by rw [h]
theorem cond_congr {b:Bool} {x x' y y':Option Ans} (h:x=x') (k:y=y'):cond b x y=cond b x' y':=by rw [h,k]
theorem need_strike {p:Prop} {x y:Option Ans} (hp:p) (h:x=y):need p x=y:=by rw [need_pos hp,h]
end Go.Am
namespace Go.Proofs.YtoanepondbagcaaGreatDoor
open Go Go.Am
set_option linter.unusedVariables false
theorem ok64 {n:Int} (h0:-1000000000000<=n) (h1:n<=1000000000000):i64ok n:=by unfold i64ok; omega
theorem drop_cons {s:List UInt8} {i:Nat} {c:UInt8} {r:List UInt8} (h:s.drop i=c::r):s.getD i 0=c/\s.drop (i+1)=r/\s.length=i+1+r.length:=by
 have h1:s[i]?=some c:=by
  have:(s.drop i)[0]?=some c:=by rw [h]; rfl
  simpa using this
 refine ⟨by rw [List.getD_eq_getElem?_getD,h1]; rfl,?_,?_⟩
 .have:(s.drop i).drop 1=r:=by rw [h]; rfl
  simpa [List.drop_drop] using this
 .have:=congrArg List.length h
  simp at this
  have:i < s.length:=by
   rcases Nat.lt_or_ge i s.length with h' | h'
   .exact h'
   .rw [List.drop_of_length_le h'] at h; cases h
  omega
theorem u8_eq {c d:UInt8}:((c.toNat:Int)=(d.toNat:Int))↔c=d:=by
 constructor
 .intro h; exact UInt8.toNat_inj.1 (by omega)
 .rintro rfl; rfl
theorem u8_of (x:Nat):UInt8.ofNat (IntKind.u8.wrap (x:Int)).toNat=UInt8.ofNat x:=by
 rw [u8_wrap]
 have:((x:Int) % 256).toNat=x % 256:=by omega
 rw [this]
 apply UInt8.toNat_inj.1
 rw [UInt8.toNat_ofNat',UInt8.toNat_ofNat']
 omega
theorem fdiv_nat (x k:Nat):(x:Int).fdiv (2 ^ k)=((x / 2 ^ k:Nat):Int):=by
 rw [Int.fdiv_eq_ediv_of_nonneg _ (Int.pow_nonneg (by decide)),Int.natCast_ediv,Int.natCast_pow]; rfl
def spStr (g:List UInt8->List UInt8):List AV->Option (AV×Option Prop)
 | [.p (.str s)]=>some (.p (.str (g s)),some (s.length<=1000000))
 | _=>none
theorem spStr_ok {f:FuncId} {g:List UInt8->List UInt8} (hc:callable Tryz.prog f=true) (h:∀ s,s.length<=1000000->FnP Tryz.prog f [.p (.str s)] (.p (.str (g s)))):SpecOk Tryz.prog f (spStr g):=by
 intro zs r ok he hok
 unfold spStr at he
 split at he
 .cases he; exact ⟨hc,h _ hok⟩
 .cases he
end Go.Proofs.YtoanepondbagcaaGreatDoor
namespace Go.Proofs.YtoanepondbagcaaGreatDoor
open Go Go.Am
set_option linter.unusedVariables false
noncomputable def Gmore:Cfg:=⟨Tryz.prog,mkEnv [],mkEnvR [],7,[],[],[]⟩
noncomputable def Fmore (F:Nat) (x:Int):Option Ans:=runF Gmore Tryz.f102 F [.p (.int .i64 x)]
theorem Fmore_eq (F:Nat) (x:Int):Fmore F x=some (.p (.int .u8 (IntKind.u8.wrap (ibits .or .i64 (128:Int) (ibits .and .i64 x (63:Int))))),[]):=by kernel_rfl
theorem fn_more (F:Nat) (x:Int) (r:AV) (h:(∃ M vs,ARels γ0 M [.p (.int .i64 x)] vs)->Fmore F x=some (r,[])):FnP Tryz.prog 102 [.p (.int .i64 x)] r:=
 FnP_run Gmore F rfl (EnvOk_mk (l:=[]) trivial) (EnvROk_mk (l:=[]) trivial) (Checked.mixed Tryz.checked) (fn:=Tryz.f102) (by kernel_rfl) (by kernel_rfl) rfl h
def moreB (r:Int):UInt8:=UInt8.ofNat (128+r.toNat % 64)
def putN (n:Nat):List UInt8:=
 if n < 128 then [UInt8.ofNat n] else if n < 2048 then [UInt8.ofNat (192+n / 64),UInt8.ofNat (128+n % 64)]
 else if n < 65536 then [UInt8.ofNat (224+n / 4096),UInt8.ofNat (128+n / 64 % 64),UInt8.ofNat (128+n % 64)]
 else [UInt8.ofNat (240+n / 262144),UInt8.ofNat (128+n / 4096 % 64),UInt8.ofNat (128+n / 64 % 64),UInt8.ofNat (128+n % 64)]
abbrev badR (r:Int):Prop:=(r < 0\/r > 1114111)\/(r>=55296/\r<=57343)
def putS (r:Int):List UInt8:=if badR r then [] else putN r.toNat
theorem or_lead (a k b:Nat) (ha:a * 2 ^ k<=255) (hb:b < 2 ^ k) (hk:2 ^ k<=255):UInt8.ofNat (IntKind.u8.wrap (ibits .or .i64 ((a * 2 ^ k:Nat):Int) (b:Int))).toNat=UInt8.ofNat (a * 2 ^ k+b):=by
 rw [i64_or (by omega) (by omega),or_add _ _ _ hb,u8_of]
theorem lead192 (b:Nat) (hb:b < 64):UInt8.ofNat (IntKind.u8.wrap (ibits .or .i64 (192:Int) (b:Int))).toNat=UInt8.ofNat (192+b):=or_lead 3 6 b (by decide) hb (by decide)
theorem lead224 (b:Nat) (hb:b < 32):UInt8.ofNat (IntKind.u8.wrap (ibits .or .i64 (224:Int) (b:Int))).toNat=UInt8.ofNat (224+b):=or_lead 7 5 b (by decide) hb (by decide)
theorem lead240 (b:Nat) (hb:b < 16):UInt8.ofNat (IntKind.u8.wrap (ibits .or .i64 (240:Int) (b:Int))).toNat=UInt8.ofNat (240+b):=or_lead 15 4 b (by decide) hb (by decide)
theorem more_eq (r:Int) (h:0<=r/\r<=1114111):Fmore 0 r=some (.p (.int .u8 ((moreB r).toNat:Int)),[]):=by
 obtain ⟨n,rfl⟩:=Int.eq_ofNat_of_zero_le h.1
 rw [Fmore_eq]
 have e:ibits .or .i64 (128:Int) (ibits .and .i64 (n:Int) (63:Int))=((128+n % 64:Nat):Int):=by
  rw [show (63:Int)=((63:Nat):Int) from rfl,i64_and (by omega) (by decide),show (63:Nat)=2 ^ 6 - 1 from rfl,and_mod]
  rw [show (128:Int)=((1 * 2 ^ 7:Nat):Int) from rfl,i64_or (by omega) (by omega),or_add _ _ _ (by omega)]
 rw [e,u8_wrap,moreB]
 have:((128+n % 64:Nat):Int) % 256=((UInt8.ofNat (128+((n:Int)).toNat % 64)).toNat:Int):=by
  rw [UInt8.toNat_ofNat',Int.toNat_natCast]; omega
 rw [this]
def sp_more:List AV->Option (AV×Option Prop)
 | [.p (.int .i64 x)]=>some (.p (.int .u8 ((moreB x).toNat:Int)),some (0<=x/\x<=1114111))
 | _=>none
theorem ok_more:SpecOk Tryz.prog 102 sp_more:=by
 intro zs r ok he hok
 unfold sp_more at he
 split at he
 .cases he; exact ⟨by kernel_rfl,fn_more 0 _ _ fun hx=>more_eq _ hok⟩
 .cases he
noncomputable def cPut:Code:=bodyOf Tryz.f63
noncomputable def GPut:Cfg:=⟨Tryz.prog,mkEnv [(102,sp_more)],mkEnvR [],64,[],[([1,0,0,1],⟨[0,3],[]⟩)],[]⟩
noncomputable def BPut_1 (F:Nat) (x:Int) (vc1:Bool):Option Ans:=runB GPut cPut (kP Tryz.prog Tryz.f63.results.toList) F [] [1,0,0,1] [(0,.p (.int .i64 x)),(3,.p (.bool vc1))] []
noncomputable def FPut (F:Nat) (x:Int):Option Ans:=runF GPut Tryz.f63 F [.p (.int .i64 x)]
theorem BPut_1_eq (F:Nat) (x:Int) (vc1:Bool):BPut_1 F x vc1=cond (vc1) (some (.p (.str ([]:List UInt8)),[])) (cond (decide (x < (128:Int))) (some (.p (.str [UInt8.ofNat (IntKind.u8.wrap x).toNat]),[])) (cond (decide (x < (2048:Int))) ((need (0<=x/\x<=1114111) (some (.p (.str [UInt8.ofNat (IntKind.u8.wrap (ibits .or .i64 (192:Int) (x.fdiv 64))).toNat,UInt8.ofNat (((moreB x).toNat:Int)).toNat]),[])))) (cond (decide (x < (65536:Int))) (((need (0<=(x.fdiv 64)/\(x.fdiv 64)<=1114111) (need (0<=x/\x<=1114111) (some (.p (.str [UInt8.ofNat (IntKind.u8.wrap (ibits .or .i64 (224:Int) (x.fdiv 4096))).toNat,UInt8.ofNat (((moreB (x.fdiv 64)).toNat:Int)).toNat,UInt8.ofNat (((moreB x).toNat:Int)).toNat]),[])))))) (((need (0<=(x.fdiv 4096)/\(x.fdiv 4096)<=1114111) ((need (0<=(x.fdiv 64)/\(x.fdiv 64)<=1114111) (need (0<=x/\x<=1114111) (some (.p (.str [UInt8.ofNat (IntKind.u8.wrap (ibits .or .i64 (240:Int) (x.fdiv 262144))).toNat,UInt8.ofNat (((moreB (x.fdiv 4096)).toNat:Int)).toNat,UInt8.ofNat (((moreB (x.fdiv 64)).toNat:Int)).toNat,UInt8.ofNat (((moreB x).toNat:Int)).toNat]),[]))))))))))):=by
 have h:BPut_1 F x vc1=cond (vc1) (some (.p (.str ([]:List UInt8)),[])) (cond (decide (x < (128:Int))) (some (.p (.str [UInt8.ofNat (IntKind.u8.wrap x).toNat]),[])) (cond (decide (x < (2048:Int))) (need (0<=(6:Int)) (need (0<=x/\x<=1114111) (some (.p (.str [UInt8.ofNat (IntKind.u8.wrap (ibits .or .i64 (192:Int) (x.fdiv 64))).toNat,UInt8.ofNat (((moreB x).toNat:Int)).toNat]),[])))) (cond (decide (x < (65536:Int))) (need (0<=(12:Int)) (need (0<=(6:Int)) (need (0<=(x.fdiv 64)/\(x.fdiv 64)<=1114111) (need (0<=x/\x<=1114111) (some (.p (.str [UInt8.ofNat (IntKind.u8.wrap (ibits .or .i64 (224:Int) (x.fdiv 4096))).toNat,UInt8.ofNat (((moreB (x.fdiv 64)).toNat:Int)).toNat,UInt8.ofNat (((moreB x).toNat:Int)).toNat]),[])))))) (need (0<=(18:Int)) (need (0<=(12:Int)) (need (0<=(x.fdiv 4096)/\(x.fdiv 4096)<=1114111) (need (0<=(6:Int)) (need (0<=(x.fdiv 64)/\(x.fdiv 64)<=1114111) (need (0<=x/\x<=1114111) (some (.p (.str [UInt8.ofNat (IntKind.u8.wrap (ibits .or .i64 (240:Int) (x.fdiv 262144))).toNat,UInt8.ofNat (((moreB (x.fdiv 4096)).toNat:Int)).toNat,UInt8.ofNat (((moreB (x.fdiv 64)).toNat:Int)).toNat,UInt8.ofNat (((moreB x).toNat:Int)).toNat]),[]))))))))))):=by kernel_rfl
 rw [h,need_pos (show 0<=(6:Int) from (by decide)),need_pos (show 0<=(6:Int) from (by decide)),need_pos (show 0<=(6:Int) from (by decide)),need_pos (show 0<=(12:Int) from (by decide)),need_pos (show 0<=(12:Int) from (by decide)),need_pos (show 0<=(18:Int) from (by decide))]
theorem FPut_eq (F:Nat) (x:Int):FPut F x=BPut_1 F x (((decide (x < (0:Int)))||(decide (x > (1114111:Int))))||((decide (x>=(55296:Int)))&&(decide (x<=(57343:Int))))):=
 Eq.trans (show FPut F x=need ((!(decide (x < (0:Int))))=true->(!(decide (x < (0:Int))))=true) (need ((decide (x < (0:Int)))=false->(!(decide (x < (0:Int))))=true) (need ((!((decide (x < (0:Int)))||(decide (x > (1114111:Int)))))=true->(!((decide (x < (0:Int)))||(decide (x > (1114111:Int)))))=true) (need ((!((decide (x < (0:Int)))||(decide (x > (1114111:Int)))))=true->(!((decide (x < (0:Int)))||(decide (x > (1114111:Int)))))=true) (need (((!((decide (x < (0:Int)))||(decide (x > (1114111:Int)))))&&(decide (x>=(55296:Int))))=true->((!((decide (x < (0:Int)))||(decide (x > (1114111:Int)))))&&(decide (x>=(55296:Int))))=true) (need ((!((decide (x < (0:Int)))||(decide (x > (1114111:Int)))))=true->(!((decide (x < (0:Int)))||(decide (x > (1114111:Int)))))=true) (need ((!((decide (x < (0:Int)))||(decide (x > (1114111:Int)))))=true->(decide (x>=(55296:Int)))=true->((!((decide (x < (0:Int)))||(decide (x > (1114111:Int)))))&&(decide (x>=(55296:Int))))=true) (need (((decide (x < (0:Int)))||(decide (x > (1114111:Int))))=false->(!((decide (x < (0:Int)))||(decide (x > (1114111:Int)))))=true) (BPut_1 F x (((decide (x < (0:Int)))||(decide (x > (1114111:Int))))||((decide (x>=(55296:Int)))&&(decide (x<=(57343:Int))))))))))))) by kernel_rfl) (need_strike (show (!(decide (x < (0:Int))))=true->(!(decide (x < (0:Int))))=true from (fun q0=>q0)) (need_strike (show (decide (x < (0:Int)))=false->(!(decide (x < (0:Int))))=true from (fun q0=>(not_mk q0))) (need_strike (show (!((decide (x < (0:Int)))||(decide (x > (1114111:Int)))))=true->(!((decide (x < (0:Int)))||(decide (x > (1114111:Int)))))=true from (fun q0=>q0)) (need_strike (show (!((decide (x < (0:Int)))||(decide (x > (1114111:Int)))))=true->(!((decide (x < (0:Int)))||(decide (x > (1114111:Int)))))=true from (fun q0=>q0)) (need_strike (show ((!((decide (x < (0:Int)))||(decide (x > (1114111:Int)))))&&(decide (x>=(55296:Int))))=true->((!((decide (x < (0:Int)))||(decide (x > (1114111:Int)))))&&(decide (x>=(55296:Int))))=true from (fun q0=>q0)) (need_strike (show (!((decide (x < (0:Int)))||(decide (x > (1114111:Int)))))=true->(!((decide (x < (0:Int)))||(decide (x > (1114111:Int)))))=true from (fun q0=>q0)) (need_strike (show (!((decide (x < (0:Int)))||(decide (x > (1114111:Int)))))=true->(decide (x>=(55296:Int)))=true->((!((decide (x < (0:Int)))||(decide (x > (1114111:Int)))))&&(decide (x>=(55296:Int))))=true from (fun q0 q1=>(and_mk q0 q1))) (need_strike (show ((decide (x < (0:Int)))||(decide (x > (1114111:Int))))=false->(!((decide (x < (0:Int)))||(decide (x > (1114111:Int)))))=true from (fun q0=>(not_mk q0))) (rfl)))))))))
theorem fn_Put (F:Nat) (x:Int) (r:AV) (h:(∃ M vs,ARels γ0 M [.p (.int .i64 x)] vs)->FPut F x=some (r,[])):FnP Tryz.prog 63 [.p (.int .i64 x)] r:=
 FnP_run GPut F rfl (EnvOk_mk (l:=[(102,sp_more)]) ⟨ok_more.any,trivial⟩) (EnvROk_mk (l:=[]) trivial) (Checked.mixed Tryz.checked) (fn:=Tryz.f63) (by kernel_rfl) (by kernel_rfl) rfl h
theorem fd (n k:Nat):((n:Int)).fdiv ((2 ^ k:Nat):Int)=((n / 2 ^ k:Nat):Int):=by
 rw [Int.fdiv_eq_ediv_of_nonneg _ (Int.natCast_nonneg _),Int.natCast_ediv]
theorem bad_dec (r:Int):(((decide (r < (0:Int)))||(decide (r > (1114111:Int))))||((decide (r>=(55296:Int)))&&(decide (r<=(57343:Int)))))=decide (badR r):=by
 simp [badR,Bool.decide_or,Bool.decide_and]
theorem more_of (n:Nat):UInt8.ofNat (((moreB (n:Int)).toNat:Int)).toNat=UInt8.ofNat (128+n % 64):=by
 rw [Int.toNat_natCast,UInt8.ofNat_toNat]; rfl
theorem Put_eq (r:Int) (h:-1000000000000<=r/\r<=1000000000000):FPut 0 r=some (.p (.str (putS r)),[]):=by
 rw [FPut_eq,bad_dec,BPut_1_eq,putS]
 by_cases hb:badR r
 .refine cond_t (by simpa using hb) ?_
  rw [if_pos hb]
 .refine cond_f (by simpa using hb) ?_
  rw [if_neg hb]
  have h0:0<=r:=by unfold badR at hb; omega
  have h1:r<=1114111:=by unfold badR at hb; omega
  obtain ⟨n,rfl⟩:=Int.eq_ofNat_of_zero_le h0
  rw [show ((n:Int)).toNat=n from rfl,putN]
  have e1:((n:Int)).fdiv 64=((n / 64:Nat):Int):=fd n 6
  have e2:((n:Int)).fdiv 4096=((n / 4096:Nat):Int):=fd n 12
  have e3:((n:Int)).fdiv 262144=((n / 262144:Nat):Int):=fd n 18
  simp only [e1,e2,e3,more_of]
  by_cases c1:n < 128
  .refine cond_t (by simp; omega) ?_
   rw [if_pos c1,u8_of]
  .refine cond_f (by simp; omega) ?_
   rw [if_neg c1]
   by_cases c2:n < 2048
   .refine cond_t (by simp; omega) ?_
    refine need_mk (by first | omega | (unfold i64ok; omega) | (simp only [List.length_cons,List.length_nil]; omega) | (simp; omega) | simp) ?_
    rw [if_pos c2,lead192 _ (by omega)]
   .refine cond_f (by simp; omega) ?_
    rw [if_neg c2]
    by_cases c3:n < 65536
    .refine cond_t (by simp; omega) ?_
     refine need_mk (by first | omega | (unfold i64ok; omega) | (simp only [List.length_cons,List.length_nil]; omega) | (simp; omega) | simp) ?_
     refine need_mk (by first | omega | (unfold i64ok; omega) | (simp only [List.length_cons,List.length_nil]; omega) | (simp; omega) | simp) ?_
     rw [if_pos c3,lead224 _ (by omega)]
    .refine cond_f (by simp; omega) ?_
     refine need_mk (by first | omega | (unfold i64ok; omega) | (simp only [List.length_cons,List.length_nil]; omega) | (simp; omega) | simp) ?_
     refine need_mk (by first | omega | (unfold i64ok; omega) | (simp only [List.length_cons,List.length_nil]; omega) | (simp; omega) | simp) ?_
     refine need_mk (by first | omega | (unfold i64ok; omega) | (simp only [List.length_cons,List.length_nil]; omega) | (simp; omega) | simp) ?_
     rw [if_neg c3,lead240 _ (by omega)]
def sp_Put:List AV->Option (AV×Option Prop)
 | [.p (.int .i64 x)]=>some (.p (.str (putS x)),some (-1000000000000<=x/\x<=1000000000000))
 | _=>none
theorem ok_Put:SpecOk Tryz.prog 63 sp_Put:=by
 intro zs r ok he hok
 unfold sp_Put at he
 split at he
 .cases he; exact ⟨by kernel_rfl,fn_Put 0 _ _ fun hx=>Put_eq _ hok⟩
 .cases he
end Go.Proofs.YtoanepondbagcaaGreatDoor
namespace Go.Proofs.YtoanepondbagcaaGreatDoor
open Go Go.Am
set_option linter.unusedVariables false
def szN (c:UInt8):Nat:=if 240<=c.toNat then 4 else if 224<=c.toNat then 3 else if 192<=c.toNat then 2 else 1
def v0 (c:UInt8):Nat:=if 240<=c.toNat then c.toNat % 8 else if 224<=c.toNat then c.toNat % 16 else if 192<=c.toNat then c.toNat % 32 else c.toNat
def foldV:Nat->List UInt8->Nat
 | v,[]=>v
 | v,b::r=>foldV (v * 64+b.toNat % 64) r
def finV (s:List UInt8) (i n v:Nat):Int×Int:=if putS v=(s.drop i).take n then ((v:Int),(i:Int)+n) else (-1,i)
def getS (s:List UInt8) (i:Int):Int×Int:=
 if i < 0\/i>=s.length then (-1,i) else
 let c:=s.getD i.toNat 0
 if szN c > s.length - i.toNat then (-1,i) else finV s i.toNat (szN c) (foldV (v0 c) ((s.drop (i.toNat+1)).take (szN c - 1)))
abbrev posok (s:List UInt8) (i:Int):Prop:=0<=i/\i<=s.length/\s.length<=1000000
def getT (p:Int×Int):AV:=.tup [.p (.int .i64 p.1),.p (.int .i64 p.2)]
theorem and_lo (c:UInt8):ibits .and .u8 (c.toNat:Int) (63:Int)=((c.toNat % 64:Nat):Int)/\ibits .and .u8 (c.toNat:Int) (7:Int)=((c.toNat % 8:Nat):Int)/\ibits .and .u8 (c.toNat:Int) (15:Int)=((c.toNat % 16:Nat):Int)/\ibits .and .u8 (c.toNat:Int) (31:Int)=((c.toNat % 32:Nat):Int):=by
 have h:=c.toNat_lt
 have:∀ x:Fin 256,ibits .and .u8 ((x.val:Nat):Int) (63:Int)=((x.val % 64:Nat):Int)/\ibits .and .u8 ((x.val:Nat):Int) (7:Int)=((x.val % 8:Nat):Int)/\ibits .and .u8 ((x.val:Nat):Int) (15:Int)=((x.val % 16:Nat):Int)/\ibits .and .u8 ((x.val:Nat):Int) (31:Int)=((x.val % 32:Nat):Int):=by decide+kernel
 exact this ⟨c.toNat,h⟩
theorem step6 (v:Nat) (c:UInt8) (hv:v < 134217728):ibits .or .i64 (IntKind.i64.wrap ((v:Int) * 64)) (ibits .and .u8 (c.toNat:Int) (63:Int))=((v * 64+c.toNat % 64:Nat):Int):=by
 rw [(and_lo c).1,i64_small (by omega) (by omega),show (v:Int) * 64=((v * 2 ^ 6:Nat):Int) by omega,i64_or (by omega) (by omega),or_add _ _ _ (by omega)]
theorem take_cons {s:List UInt8} {j m:Nat} (h:j < s.length):(s.drop j).take (m+1)=s.getD j 0::(s.drop (j+1)).take m:=by
 rw [List.drop_eq_getElem_cons h,List.take_succ_cons,List.getD_eq_getElem?_getD,List.getElem?_eq_getElem h]; rfl
theorem fin_drop (s:List UInt8) (i n:Nat):(s.take (i+n)).drop i=(s.drop i).take n:=by rw [List.drop_take,Nat.add_sub_cancel_left]
def sp_rget:List AV->Option (AV×Option Prop)
 | [.p (.str s),.p (.int .i64 i)]=>some (.tup [.p (.int .i64 ((getS s i).1)),.p (.int .i64 ((getS s i).2))],some (posok s i))
 | _=>none
noncomputable def Gusize:Cfg:=⟨Tryz.prog,mkEnv [],mkEnvR [],39,[],[],[]⟩
noncomputable def Fusize (F:Nat) (c:Int):Option Ans:=runF Gusize Tryz.f117 F [.p (.int .u8 c)]
theorem Fusize_eq (F:Nat) (c:Int):Fusize F c=cond (decide (c < (128:Int))) (some (.tup [.p (.int .i64 (1:Int)),.p (.int .i64 c)],[])) (((cond ((decide (c>=(192:Int)))&&(decide (c < (224:Int)))) (some (.tup [.p (.int .i64 (2:Int)),.p (.int .i64 (ibits .and .u8 c (31:Int)))],[])) (((cond ((decide (c>=(224:Int)))&&(decide (c < (240:Int)))) (some (.tup [.p (.int .i64 (3:Int)),.p (.int .i64 (ibits .and .u8 c (15:Int)))],[])) (((cond ((decide (c>=(240:Int)))&&(decide (c < (248:Int)))) (some (.tup [.p (.int .i64 (4:Int)),.p (.int .i64 (ibits .and .u8 c (7:Int)))],[])) (some (.tup [.p (.int .i64 (0:Int)),.p (.int .i64 (0:Int))],[]))))))))))):=by
 have h:Fusize F c=cond (decide (c < (128:Int))) (some (.tup [.p (.int .i64 (1:Int)),.p (.int .i64 c)],[])) (need ((decide (c>=(192:Int)))=true->(decide (c>=(192:Int)))=true) (need ((decide (c>=(192:Int)))=true->(decide (c>=(192:Int)))=true) (cond ((decide (c>=(192:Int)))&&(decide (c < (224:Int)))) (some (.tup [.p (.int .i64 (2:Int)),.p (.int .i64 (ibits .and .u8 c (31:Int)))],[])) (need ((decide (c>=(224:Int)))=true->(decide (c>=(224:Int)))=true) (need ((decide (c>=(224:Int)))=true->(decide (c>=(224:Int)))=true) (cond ((decide (c>=(224:Int)))&&(decide (c < (240:Int)))) (some (.tup [.p (.int .i64 (3:Int)),.p (.int .i64 (ibits .and .u8 c (15:Int)))],[])) (need ((decide (c>=(240:Int)))=true->(decide (c>=(240:Int)))=true) (need ((decide (c>=(240:Int)))=true->(decide (c>=(240:Int)))=true) (cond ((decide (c>=(240:Int)))&&(decide (c < (248:Int)))) (some (.tup [.p (.int .i64 (4:Int)),.p (.int .i64 (ibits .and .u8 c (7:Int)))],[])) (some (.tup [.p (.int .i64 (0:Int)),.p (.int .i64 (0:Int))],[]))))))))))):=by kernel_rfl
 rw [h,need_pos (show (decide (c>=(240:Int)))=true->(decide (c>=(240:Int)))=true from (fun q0=>q0)),need_pos (show (decide (c>=(240:Int)))=true->(decide (c>=(240:Int)))=true from (fun q0=>q0)),need_pos (show (decide (c>=(224:Int)))=true->(decide (c>=(224:Int)))=true from (fun q0=>q0)),need_pos (show (decide (c>=(224:Int)))=true->(decide (c>=(224:Int)))=true from (fun q0=>q0)),need_pos (show (decide (c>=(192:Int)))=true->(decide (c>=(192:Int)))=true from (fun q0=>q0)),need_pos (show (decide (c>=(192:Int)))=true->(decide (c>=(192:Int)))=true from (fun q0=>q0))]
theorem fn_usize (F:Nat) (c:Int) (r:AV) (h:(∃ M vs,ARels γ0 M [.p (.int .u8 c)] vs)->Fusize F c=some (r,[])):FnP Tryz.prog 117 [.p (.int .u8 c)] r:=
 FnP_run Gusize F rfl (EnvOk_mk (l:=[]) trivial) (EnvROk_mk (l:=[]) trivial) (Checked.mixed Tryz.checked) (fn:=Tryz.f117) (by kernel_rfl) (by kernel_rfl) rfl h
def usizeS (c:Int):Int×Int:=
 if c < 128 then (1,c) else if 192<=c/\c < 224 then (2,ibits .and .u8 c 31) else if 224<=c/\c < 240 then (3,ibits .and .u8 c 15) else if 240<=c/\c < 248 then (4,ibits .and .u8 c 7) else (0,0)
theorem usize_eq (c:Int):Fusize 0 c=some (.tup [.p (.int .i64 (usizeS c).1),.p (.int .i64 (usizeS c).2)],[]):=by
 rw [Fusize_eq,usizeS]
 by_cases c1:c < 128
 .refine cond_t (by simpa using c1) ?_
  rw [if_pos c1]
 .refine cond_f (by simpa using c1) ?_
  rw [if_neg c1]
  by_cases c2:192<=c/\c < 224
  .refine cond_t (by simpa using c2) ?_
   rw [if_pos c2]
  .refine cond_f (by simpa using c2) ?_
   rw [if_neg c2]
   by_cases c3:224<=c/\c < 240
   .refine cond_t (by simpa using c3) ?_
    rw [if_pos c3]
   .refine cond_f (by simpa using c3) ?_
    rw [if_neg c3]
    by_cases c4:240<=c/\c < 248
    .refine cond_t (by simpa using c4) ?_
     rw [if_pos c4]
    .refine cond_f (by simpa using c4) ?_
     rw [if_neg c4]
def sp_usize:List AV->Option (AV×Option Prop)
 | [.p (.int .u8 c)]=>some (.tup [.p (.int .i64 ((usizeS c).1)),.p (.int .i64 ((usizeS c).2))],none)
 | _=>none
theorem ok_usize:SpecOk Tryz.prog 117 sp_usize:=by
 intro zs r ok he hok
 unfold sp_usize at he
 split at he
 .cases he; exact ⟨by kernel_rfl,fn_usize 0 _ _ fun hx=>usize_eq _⟩
 .cases he
noncomputable def cuget:Code:=bodyOf Tryz.f76
noncomputable def Guget:Cfg:=⟨Tryz.prog,mkEnv [(63,sp_Put),(117,sp_usize)],mkEnvR [],64,[],[([1,0,1,1,1],⟨[0,1,4,6,33],[]⟩),([0,1,0,1,1,1,1],⟨[0,1,4,6,7],[]⟩),([1,1,0,0,1,0,1,1,1,1],⟨[0,1,4,6,7],[]⟩)],[]⟩
noncomputable def Buget_1 (F:Nat) (s:List UInt8) (i vi1 vi2:Int) (vc3:Bool):Option Ans:=runB Guget cuget (kP Tryz.prog Tryz.f76.results.toList) F [] [1,1,1,0,1] [(0,.p (.str s)),(1,.p (.int .i64 i)),(4,.p (.int .i64 vi1)),(6,.p (.int .i64 vi2)),(33,.p (.bool vc3))] []
noncomputable def Buget_2 (F f1:Nat) (s:List UInt8) (i vi4 vi2 vi5:Int):Option Ans:=runR Guget cuget (kP Tryz.prog Tryz.f76.results.toList) F [] [1,1,1,1,0,1,0] f1 [(0,.p (.str s)),(1,.p (.int .i64 i)),(4,.p (.int .i64 vi4)),(6,.p (.int .i64 vi2)),(7,.p (.int .i64 vi5))] []
noncomputable def Buget_3 (F f1:Nat) (s:List UInt8) (i vi6 vi2 vi5:Int):Option Ans:=runB Guget cuget (kP Tryz.prog Tryz.f76.results.toList) F [f1] [1,1,1,1,0,1,0,0,1,1] [(0,.p (.str s)),(1,.p (.int .i64 i)),(4,.p (.int .i64 vi6)),(6,.p (.int .i64 vi2)),(7,.p (.int .i64 vi5))] []
noncomputable def Fuget (F:Nat) (s:List UInt8) (i:Int):Option Ans:=runF Guget Tryz.f76 F [.p (.str s),.p (.int .i64 i)]
theorem Buget_1_eq (F:Nat) (s:List UInt8) (i vi1 vi2:Int) (vc3:Bool):Buget_1 F s i vi1 vi2 vc3=cond (vc3) (some (.tup [.p (.int .i64 (-1:Int)),.p (.int .i64 i)],[])) (Buget_2 F F s i vi1 vi2 (1:Int)):=by kernel_rfl
theorem Buget_2_eq (F f1:Nat) (s:List UInt8) (i vi4 vi2 vi5:Int):Buget_2 F (f1+1) s i vi4 vi2 vi5=cond (decide (vi5 < vi2)) ((need (i64ok (i+vi5)) (need (0<=(i+vi5)/\(i+vi5) < (s.length:Int)) (Buget_3 F f1 s i (ibits .or .i64 (IntKind.i64.wrap (vi4 * 64)) (ibits .and .u8 ((s.getD (i+vi5).toNat 0).toNat:Int) (63:Int))) vi2 vi5)))) (need (-1000000000000<=vi4/\vi4<=1000000000000) (need (i64ok (i+vi2)) (need (0<=i/\i<=(i+vi2)/\(i+vi2)<=(s.length:Int)) (cond ((putS vi4) != ((s.take (i+vi2).toNat).drop (i).toNat)) (some (.tup [.p (.int .i64 (-1:Int)),.p (.int .i64 i)],[])) (need (i64ok (i+vi2)) (some (.tup [.p (.int .i64 vi4),.p (.int .i64 (i+vi2))],[]))))))):=by
 have h:Buget_2 F (f1+1) s i vi4 vi2 vi5=cond (decide (vi5 < vi2)) (need (0<=(6:Int)) (need (i64ok (i+vi5)) (need (0<=(i+vi5)/\(i+vi5) < (s.length:Int)) (Buget_3 F f1 s i (ibits .or .i64 (IntKind.i64.wrap (vi4 * 64)) (ibits .and .u8 ((s.getD (i+vi5).toNat 0).toNat:Int) (63:Int))) vi2 vi5)))) (need (-1000000000000<=vi4/\vi4<=1000000000000) (need (i64ok (i+vi2)) (need (0<=i/\i<=(i+vi2)/\(i+vi2)<=(s.length:Int)) (cond ((putS vi4) != ((s.take (i+vi2).toNat).drop (i).toNat)) (some (.tup [.p (.int .i64 (-1:Int)),.p (.int .i64 i)],[])) (need (i64ok (i+vi2)) (some (.tup [.p (.int .i64 vi4),.p (.int .i64 (i+vi2))],[]))))))):=by kernel_rfl
 rw [h,need_pos (show 0<=(6:Int) from (by decide))]
theorem Buget_3_eq (F f1:Nat) (s:List UInt8) (i vi6 vi2 vi5:Int):Buget_3 F f1 s i vi6 vi2 vi5=need (i64ok (vi5+(1:Int))) (Buget_2 F f1 s i vi6 vi2 (vi5+(1:Int))):=by kernel_rfl
theorem Fuget_eq (F:Nat) (s:List UInt8) (i:Int):Fuget F s i=cond ((decide (i < (0:Int)))||(decide (i>=(s.length:Int)))) (some (.tup [.p (.int .i64 (-1:Int)),.p (.int .i64 i)],[])) (need (0<=i/\i < (s.length:Int)) (need ((!(((usizeS ((s.getD (i).toNat 0).toNat:Int)).1)==(0:Int)))=true->i64ok ((s.length:Int) - i)) (Buget_1 F s i ((usizeS ((s.getD (i).toNat 0).toNat:Int)).2) ((usizeS ((s.getD (i).toNat 0).toNat:Int)).1) ((((usizeS ((s.getD (i).toNat 0).toNat:Int)).1)==(0:Int))||(decide (((usizeS ((s.getD (i).toNat 0).toNat:Int)).1) > ((s.length:Int) - i))))))):=
 Eq.trans (show Fuget F s i=need ((!(decide (i < (0:Int))))=true->(!(decide (i < (0:Int))))=true) (need ((!(decide (i < (0:Int))))=true->(!(decide (i < (0:Int))))=true) (need ((!(decide (i < (0:Int))))=true->(!(decide (i < (0:Int))))=true) (need ((decide (i < (0:Int)))=false->(!(decide (i < (0:Int))))=true) (cond ((decide (i < (0:Int)))||(decide (i>=(s.length:Int)))) (some (.tup [.p (.int .i64 (-1:Int)),.p (.int .i64 i)],[])) (need (0<=i/\i < (s.length:Int)) (need ((!(((usizeS ((s.getD (i).toNat 0).toNat:Int)).1)==(0:Int)))=true->(!(((usizeS ((s.getD (i).toNat 0).toNat:Int)).1)==(0:Int)))=true) (need ((!(((usizeS ((s.getD (i).toNat 0).toNat:Int)).1)==(0:Int)))=true->(!(((usizeS ((s.getD (i).toNat 0).toNat:Int)).1)==(0:Int)))=true) (need ((!(((usizeS ((s.getD (i).toNat 0).toNat:Int)).1)==(0:Int)))=true->(!(((usizeS ((s.getD (i).toNat 0).toNat:Int)).1)==(0:Int)))=true) (need ((!(((usizeS ((s.getD (i).toNat 0).toNat:Int)).1)==(0:Int)))=true->i64ok ((s.length:Int) - i)) (need ((!(((usizeS ((s.getD (i).toNat 0).toNat:Int)).1)==(0:Int)))=true->(!(((usizeS ((s.getD (i).toNat 0).toNat:Int)).1)==(0:Int)))=true) (need ((!(((usizeS ((s.getD (i).toNat 0).toNat:Int)).1)==(0:Int)))=true->(!(((usizeS ((s.getD (i).toNat 0).toNat:Int)).1)==(0:Int)))=true) (need ((((usizeS ((s.getD (i).toNat 0).toNat:Int)).1)==(0:Int))=false->(!(((usizeS ((s.getD (i).toNat 0).toNat:Int)).1)==(0:Int)))=true) (Buget_1 F s i ((usizeS ((s.getD (i).toNat 0).toNat:Int)).2) ((usizeS ((s.getD (i).toNat 0).toNat:Int)).1) ((((usizeS ((s.getD (i).toNat 0).toNat:Int)).1)==(0:Int))||(decide (((usizeS ((s.getD (i).toNat 0).toNat:Int)).1) > ((s.length:Int) - i))))))))))))))))) by kernel_rfl) (need_strike (show (!(decide (i < (0:Int))))=true->(!(decide (i < (0:Int))))=true from (fun q0=>q0)) (need_strike (show (!(decide (i < (0:Int))))=true->(!(decide (i < (0:Int))))=true from (fun q0=>q0)) (need_strike (show (!(decide (i < (0:Int))))=true->(!(decide (i < (0:Int))))=true from (fun q0=>q0)) (need_strike (show (decide (i < (0:Int)))=false->(!(decide (i < (0:Int))))=true from (fun q0=>(not_mk q0))) (cond_congr (rfl) (need_congr (need_strike (show (!(((usizeS ((s.getD (i).toNat 0).toNat:Int)).1)==(0:Int)))=true->(!(((usizeS ((s.getD (i).toNat 0).toNat:Int)).1)==(0:Int)))=true from (fun q0=>q0)) (need_strike (show (!(((usizeS ((s.getD (i).toNat 0).toNat:Int)).1)==(0:Int)))=true->(!(((usizeS ((s.getD (i).toNat 0).toNat:Int)).1)==(0:Int)))=true from (fun q0=>q0)) (need_strike (show (!(((usizeS ((s.getD (i).toNat 0).toNat:Int)).1)==(0:Int)))=true->(!(((usizeS ((s.getD (i).toNat 0).toNat:Int)).1)==(0:Int)))=true from (fun q0=>q0)) (need_congr (need_strike (show (!(((usizeS ((s.getD (i).toNat 0).toNat:Int)).1)==(0:Int)))=true->(!(((usizeS ((s.getD (i).toNat 0).toNat:Int)).1)==(0:Int)))=true from (fun q0=>q0)) (need_strike (show (!(((usizeS ((s.getD (i).toNat 0).toNat:Int)).1)==(0:Int)))=true->(!(((usizeS ((s.getD (i).toNat 0).toNat:Int)).1)==(0:Int)))=true from (fun q0=>q0)) (need_strike (show (((usizeS ((s.getD (i).toNat 0).toNat:Int)).1)==(0:Int))=false->(!(((usizeS ((s.getD (i).toNat 0).toNat:Int)).1)==(0:Int)))=true from (fun q0=>(not_mk q0))) (rfl))))))))))))))
theorem fn_uget (F:Nat) (s:List UInt8) (i:Int) (r:AV) (h:(∃ M vs,ARels γ0 M [.p (.str s),.p (.int .i64 i)] vs)->Fuget F s i=some (r,[])):FnP Tryz.prog 76 [.p (.str s),.p (.int .i64 i)] r:=
 FnP_run Guget F rfl (EnvOk_mk (l:=[(63,sp_Put),(117,sp_usize)]) ⟨ok_Put.any,ok_usize.any,trivial⟩) (EnvROk_mk (l:=[]) trivial) (Checked.mixed Tryz.checked) (fn:=Tryz.f76) (by kernel_rfl) (by kernel_rfl) rfl h
theorem Buget_spec (F:Nat) (s:List UInt8) (hs:s.length<=1000000) (i n:Nat) (h:i+n<=s.length) (hn:n<=4):∀ (m f j v:Nat),j+m=n->m < f->1<=j->v < 8 * 64 ^ (4 - m)->
 Buget_2 F f s (i:Int) (v:Int) (n:Int) (j:Int)=some (getT (finV s i n (foldV v ((s.drop (i+j)).take m))),[]):=by
 intro m
 induction m with
 | zero=>
  intro f j v hj hf h1 hv
  cases f with
  | zero=>omega
  | succ f=>
   have hv:v < 134217728:=by simpa using hv
   rw [Buget_2_eq]
   refine cond_f (by first | omega | (unfold i64ok; omega) | (simp only [List.length_cons,List.length_nil]; omega) | (simp; omega) | simp) ?_
   refine need_mk (by first | omega | (unfold i64ok; omega) | (simp only [List.length_cons,List.length_nil]; omega) | (simp; omega) | simp) ?_
   refine need_mk (by first | omega | (unfold i64ok; omega) | (simp only [List.length_cons,List.length_nil]; omega) | (simp; omega) | simp) ?_
   refine need_mk (by first | omega | (unfold i64ok; omega) | (simp only [List.length_cons,List.length_nil]; omega) | (simp; omega) | simp) ?_
   have e1:((i:Int)+(n:Int)).toNat=i+n:=by omega
   rw [e1,show ((i:Int)).toNat=i from rfl,fin_drop]
   simp only [List.take_zero,foldV,finV]
   by_cases hp:putS (v:Int)=(s.drop i).take n
   .refine cond_f (by simp [hp]) ?_
    refine need_mk (by first | omega | (unfold i64ok; omega) | (simp only [List.length_cons,List.length_nil]; omega) | (simp; omega) | simp) ?_
    rw [if_pos hp]; rfl
   .refine cond_t (by simpa using hp) ?_
    rw [if_neg hp]; rfl
 | succ m ih=>
  intro f j v hj hf h1 hv
  cases f with
  | zero=>omega
  | succ f=>
   have hv2:v < 134217728:=Nat.lt_of_lt_of_le hv (by
    have:(64:Nat) ^ (4 - (m+1))<=64 ^ 4:=Nat.pow_le_pow_right (by decide) (by omega)
    have e:(64:Nat) ^ 4=16777216:=rfl
    omega)
   rw [Buget_2_eq]
   refine cond_t (by first | omega | (unfold i64ok; omega) | (simp only [List.length_cons,List.length_nil]; omega) | (simp; omega) | simp) ?_
   refine need_mk (by first | omega | (unfold i64ok; omega) | (simp only [List.length_cons,List.length_nil]; omega) | (simp; omega) | simp) ?_
   refine need_mk (by first | omega | (unfold i64ok; omega) | (simp only [List.length_cons,List.length_nil]; omega) | (simp; omega) | simp) ?_
   have e1:((i:Int)+(j:Int)).toNat=i+j:=by omega
   rw [e1,Buget_3_eq,step6 v _ hv2]
   refine need_mk (by first | omega | (unfold i64ok; omega) | (simp only [List.length_cons,List.length_nil]; omega) | (simp; omega) | simp) ?_
   have e2:(j:Int)+1=((j+1:Nat):Int):=by omega
   rw [e2,ih f (j+1) _ (by omega) (by omega) (by omega) ?_,take_cons (by omega),foldV]
   .rfl
   .have:4 - m=(4 - (m+1))+1:=by omega
    rw [this,Nat.pow_succ]; omega
theorem putN_len (n:Nat):(putN n).length<=4/\1<=(putN n).length:=by unfold putN; split <;> (try split) <;> (try split) <;> simp
theorem putS_head {v:Nat} {c:UInt8} {r:List UInt8} (h:putS (v:Int)=c::r) (h4:r.length=3):240<=c.toNat/\c.toNat < 248:=by
 unfold putS at h
 split at h
 .cases h
 .rename_i hb
  have hv:v<=1114111:=by unfold badR at hb; omega
  rw [show ((v:Int)).toNat=v from rfl] at h
  unfold putN at h
  split at h
  .cases h; cases h4
  .split at h
   .cases h; cases h4
   .split at h
    .cases h; cases h4
    .cases h
     rw [UInt8.toNat_ofNat']
     omega
theorem getS_none {s:List UInt8} {i:Nat} {c:UInt8} (hi:i < s.length) (hc:s.getD i 0=c) (h:(128<=c.toNat/\c.toNat < 192)\/248<=c.toNat):getS s (i:Int)=(-1,(i:Int)):=by
 rw [getS,if_neg (by omega)]
 rw [show ((i:Int)).toNat=i from rfl]
 dsimp only
 rw [hc]
 split
 .rfl
 .rename_i hl
  rw [finV,if_neg ?_]
  intro e
  have hlen:=congrArg List.length e
  have htl:((s.drop i).take (szN c)).length=szN c:=by simp; omega
  rw [htl] at hlen
  rcases h with h | h
  .have hz:szN c=1:=by unfold szN; rw [if_neg (by omega),if_neg (by omega),if_neg (by omega)]
   have hv:v0 c=c.toNat:=by unfold v0; rw [if_neg (by omega),if_neg (by omega),if_neg (by omega)]
   rw [hz,hv] at hlen
   simp only [Nat.sub_self,List.take_zero,foldV] at hlen
   unfold putS at hlen
   rw [if_neg (by unfold badR; omega),show ((c.toNat:Int)).toNat=c.toNat from rfl,putN,if_neg (by omega),if_pos (by omega)] at hlen
   cases hlen
  .have hz:szN c=4:=by unfold szN; rw [if_pos (by omega)]
   rw [hz] at e
   rw [take_cons hi,hc] at e
   have:=putS_head e (by simp; omega)
   omega
theorem uget_eq (s:List UInt8) (i:Int) (h:posok s i):Fuget 10 s i=some (getT (getS s i),[]):=by
 obtain ⟨h0,h1,h2⟩:=h
 obtain ⟨i,rfl⟩:=Int.eq_ofNat_of_zero_le h0
 rw [Fuget_eq]
 by_cases hb:((i:Int) < 0\/(i:Int)>=s.length)
 .refine cond_t (by simpa using hb) ?_
  rw [getS,if_pos hb]; rfl
 .refine cond_f (by simpa using hb) ?_
  have hi:i < s.length:=by omega
  refine need_mk (by first | omega | (unfold i64ok; omega) | (simp only [List.length_cons,List.length_nil]; omega) | (simp; omega) | simp) ?_
  refine need_mk (fun _=>by unfold i64ok; omega) ?_
  rw [show ((i:Int)).toNat=i from rfl]
  generalize hc:s.getD i 0=c
  have hlt:=c.toNat_lt
  by_cases hn:(128<=c.toNat/\c.toNat < 192)\/248<=c.toNat
  .have hz:usizeS (c.toNat:Int)=(0,0):=by unfold usizeS; rw [if_neg (by omega),if_neg (by omega),if_neg (by omega),if_neg (by omega)]
   rw [getS_none hi hc hn,hz,Buget_1_eq]
   exact cond_t rfl rfl
  .have key:∀ n v:Nat,usizeS (c.toNat:Int)=((n:Int),(v:Int))->n=szN c->v=v0 c->1<=n->n<=4->v < 8 * 64 ^ (4 - (n - 1))->
    Buget_1 10 s (i:Int) (usizeS (c.toNat:Int)).2 (usizeS (c.toNat:Int)).1 (((usizeS (c.toNat:Int)).1==(0:Int))||(decide ((usizeS (c.toNat:Int)).1 > ((s.length:Int) - (i:Int)))))=some (getT (getS s i),[]):=by
    intro n v hu hn hv h1n h4n hv8
    rw [hu,Buget_1_eq,getS,if_neg hb,show ((i:Int)).toNat=i from rfl]
    dsimp only
    rw [hc,<-hn,<-hv]
    by_cases hl:n > s.length - i
    .refine cond_t (by simp; omega) ?_
     rw [if_pos hl]; rfl
    .refine cond_f (by simp; omega) ?_
     rw [if_neg hl]
     exact Buget_spec 10 s h2 i n (by omega) h4n (n - 1) 10 1 v (by omega) (by omega) (by omega) hv8
   by_cases c1:240<=c.toNat
   .exact key 4 (c.toNat % 8) (by unfold usizeS; rw [if_neg (by omega),if_neg (by omega),if_neg (by omega),if_pos (by omega),(and_lo c).2.1]; rfl) (by rw [szN,if_pos c1]) (by rw [v0,if_pos c1]) (by decide) (by decide) (by simp; omega)
   .by_cases c2:224<=c.toNat
    .exact key 3 (c.toNat % 16) (by unfold usizeS; rw [if_neg (by omega),if_neg (by omega),if_pos (by omega),(and_lo c).2.2.1]; rfl) (by rw [szN,if_neg c1,if_pos c2]) (by rw [v0,if_neg c1,if_pos c2]) (by decide) (by decide) (by simp; omega)
    .by_cases c3:192<=c.toNat
     .exact key 2 (c.toNat % 32) (by unfold usizeS; rw [if_neg (by omega),if_pos (by omega),(and_lo c).2.2.2]; rfl) (by rw [szN,if_neg c1,if_neg c2,if_pos c3]) (by rw [v0,if_neg c1,if_neg c2,if_pos c3]) (by decide) (by decide) (by simp; omega)
     .exact key 1 c.toNat (by unfold usizeS; rw [if_pos (by omega)]; rfl) (by rw [szN,if_neg c1,if_neg c2,if_neg c3]) (by rw [v0,if_neg c1,if_neg c2,if_neg c3]) (by decide) (by decide) (by simp; omega)
def sp_uget:List AV->Option (AV×Option Prop)
 | [.p (.str s),.p (.int .i64 i)]=>some (.tup [.p (.int .i64 ((getS s i).1)),.p (.int .i64 ((getS s i).2))],some (posok s i))
 | _=>none
theorem ok_uget:SpecOk Tryz.prog 76 sp_uget:=by
 intro zs r ok he hok
 unfold sp_uget at he
 split at he
 .cases he; exact ⟨by kernel_rfl,fn_uget 10 _ _ _ fun hx=>uget_eq _ _ hok⟩
 .cases he
end Go.Proofs.YtoanepondbagcaaGreatDoor
