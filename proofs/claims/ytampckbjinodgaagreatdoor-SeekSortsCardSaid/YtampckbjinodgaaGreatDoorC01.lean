/-
  Lifted functions, and facts about them.
-/
import Derived.Test.YtampckbjinodgaaGreatDoorAmC
import Derived.Test.YtampckbjinodgaaGreatDoorRows
set_option linter.unusedVariables false
namespace Go.Am
open Go Go.RowKit
theorem need_congr {p:Prop} {x y:Option Ans} (h:x=y):need p x=need p y:=by rw [h]
theorem cond_congr {b:Bool} {x x' y y':Option Ans} (h:x=x') (k:y=y'):cond b x y=cond b x' y':=by rw [h,k]
theorem need_strike {p:Prop} {x y:Option Ans} (hp:p) (h:x=y):need p x=y:=by rw [need_pos hp,h]
end Go.Am
namespace Go.Proofs.YtampckbjinodgaaGreatDoor
open Go Go.Am
set_option linter.unusedVariables false
theorem ok64 {n:Int} (h0:-1000000000000<=n) (h1:n<=1000000000000):i64ok n:=by unfold i64ok; omega
theorem drop_cons {s:List UInt8} {i:Nat} {c:UInt8} {r:List UInt8} (h:s.drop i=c::r):s.getD i 0=c/\s.drop (i+1)=r/\s.length=i+1+r.length:=by
 have h1:s[i]?=some c:=by
  have:(s.drop i)[0]?=some c:=by rw [h]; rfl
  simpa using this
 refine ⟨by rw [List.getD_eq_getElem?_getD,h1]; rfl,?_,?_⟩
 .have:(s.drop i).drop 1=r:=by rw [h]; rfl
  simpa [List.drop_drop] using this
 .have:=congrArg List.length h
  simp at this
  have:i < s.length:=by
   rcases Nat.lt_or_ge i s.length with h' | h'
   .exact h'
   .rw [List.drop_of_length_le h'] at h; cases h
  omega
theorem u8_eq {c d:UInt8}:((c.toNat:Int)=(d.toNat:Int))↔c=d:=by
 constructor
 .intro h; exact UInt8.toNat_inj.1 (by omega)
 .rintro rfl; rfl
theorem u8_of (x:Nat):UInt8.ofNat (IntKind.u8.wrap (x:Int)).toNat=UInt8.ofNat x:=by
 rw [u8_wrap]
 have:((x:Int) % 256).toNat=x % 256:=by omega
 rw [this]
 apply UInt8.toNat_inj.1
 rw [UInt8.toNat_ofNat',UInt8.toNat_ofNat']
 omega
theorem fdiv_nat (x k:Nat):(x:Int).fdiv (2 ^ k)=((x / 2 ^ k:Nat):Int):=by
 rw [Int.fdiv_eq_ediv_of_nonneg _ (Int.pow_nonneg (by decide)),Int.natCast_ediv,Int.natCast_pow]; rfl
def spStr (g:List UInt8->List UInt8):List AV->Option (AV×Option Prop)
 | [.p (.str s)]=>some (.p (.str (g s)),some (s.length<=1000000))
 | _=>none
theorem spStr_ok {f:FuncId} {g:List UInt8->List UInt8} (hc:callable Tryz.prog f=true) (h:∀ s,s.length<=1000000->FnP Tryz.prog f [.p (.str s)] (.p (.str (g s)))):SpecOk Tryz.prog f (spStr g):=by
 intro zs r ok he hok
 unfold spStr at he
 split at he
 .cases he; exact ⟨hc,h _ hok⟩
 .cases he
end Go.Proofs.YtampckbjinodgaaGreatDoor
namespace Go.Proofs.YtampckbjinodgaaGreatDoor
open Go Go.Am
set_option linter.unusedVariables false
noncomputable def Glibs0:Cfg:=⟨Tryz.prog,mkEnv [],mkEnvR [],19,[],[],[]⟩
noncomputable def Flibs0 (F:Nat) (c:Int):Option Ans:=runF Glibs0 Tryz.f170 F [.p (.str ([]:List UInt8)),.p (.int .u8 c)]
theorem Flibs0_eq (F:Nat) (c:Int):Flibs0 (F+1) c=need (i64ok ((0:Int) - (1:Int))) (some (.p (.int .i64 (-1:Int)),[])):=by kernel_rfl
theorem fn_libs0 (F:Nat) (c:Int) (r:AV) (h:(∃ M vs,ARels γ0 M [.p (.str ([]:List UInt8)),.p (.int .u8 c)] vs)->Flibs0 F c=some (r,[])):FnP Tryz.prog 170 [.p (.str ([]:List UInt8)),.p (.int .u8 c)] r:=
 FnP_run Glibs0 F rfl (EnvOk_mk (l:=[]) trivial) (EnvROk_mk (l:=[]) trivial) (Checked.mixed Tryz.checked) (fn:=Tryz.f170) (by kernel_rfl) (by kernel_rfl) rfl h
def sp_libs0:List AV->Option (AV×Option Prop)
 | [.p (.str []),.p (.int .u8 c)]=>some (.p (.int .i64 (-1)),none)
 | _=>none
theorem ok_libs0:SpecOk Tryz.prog 170 sp_libs0:=by
 intro zs r ok he hok
 unfold sp_libs0 at he
 split at he
 .cases he; exact ⟨by kernel_rfl,fn_libs0 1 _ _ fun _=>by rw [Flibs0_eq]; exact need_mk (by unfold i64ok; omega) rfl⟩
 .cases he
noncomputable def Glib0:Cfg:=⟨Tryz.prog,mkEnv [(170,sp_libs0)],mkEnvR [],8,[],[],[]⟩
noncomputable def Flib0 (F:Nat) (c:Int):Option Ans:=runF Glib0 Tryz.f139 F [.p (.str ([]:List UInt8)),.p (.int .u8 c)]
theorem Flib0_eq (F:Nat) (c:Int):Flib0 F c=some (.p (.int .i64 (-1:Int)),[]):=by kernel_rfl
theorem fn_lib0 (F:Nat) (c:Int) (r:AV) (h:(∃ M vs,ARels γ0 M [.p (.str ([]:List UInt8)),.p (.int .u8 c)] vs)->Flib0 F c=some (r,[])):FnP Tryz.prog 139 [.p (.str ([]:List UInt8)),.p (.int .u8 c)] r:=
 FnP_run Glib0 F rfl (EnvOk_mk (l:=[(170,sp_libs0)]) ⟨ok_libs0.any,trivial⟩) (EnvROk_mk (l:=[]) trivial) (Checked.mixed Tryz.checked) (fn:=Tryz.f139) (by kernel_rfl) (by kernel_rfl) rfl h
def sp_lib0:List AV->Option (AV×Option Prop)
 | [.p (.str []),.p (.int .u8 c)]=>some (.p (.int .i64 (-1)),none)
 | _=>none
theorem ok_lib0:SpecOk Tryz.prog 139 sp_lib0:=by
 intro zs r ok he hok
 unfold sp_lib0 at he
 split at he
 .cases he; exact ⟨by kernel_rfl,fn_lib0 0 _ _ fun _=>by rw [Flib0_eq]⟩
 .cases he
noncomputable def Gapart0:Cfg:=⟨Tryz.prog,mkEnv [(139,sp_lib0)],mkEnvR [],17,[],[],[]⟩
noncomputable def Fapart0 (F:Nat) :Option Ans:=runF Gapart0 Tryz.f107 F [.p (.str ([]:List UInt8))]
theorem Fapart0_eq (F:Nat) :Fapart0 F =some (.tup [.p (.str ([]:List UInt8)),.p (.str ([]:List UInt8))],[]):=by kernel_rfl
theorem fn_apart0 (F:Nat)  (r:AV) (h:(∃ M vs,ARels γ0 M [.p (.str ([]:List UInt8))] vs)->Fapart0 F =some (r,[])):FnP Tryz.prog 107 [.p (.str ([]:List UInt8))] r:=
 FnP_run Gapart0 F rfl (EnvOk_mk (l:=[(139,sp_lib0)]) ⟨ok_lib0.any,trivial⟩) (EnvROk_mk (l:=[]) trivial) (Checked.mixed Tryz.checked) (fn:=Tryz.f107) (by kernel_rfl) (by kernel_rfl) rfl h
def sp_apart0:List AV->Option (AV×Option Prop)
 | [.p (.str [])]=>some (.tup [.p (.str []),.p (.str [])],none)
 | _=>none
theorem ok_apart0:SpecOk Tryz.prog 107 sp_apart0:=by
 intro zs r ok he hok
 unfold sp_apart0 at he
 split at he
 .cases he; exact ⟨by kernel_rfl,fn_apart0 0 _ fun _=>by rw [Fapart0_eq]⟩
 .cases he
noncomputable def Gjoin0:Cfg:=⟨Tryz.prog,mkEnv [],mkEnvR [],75,[],[],[]⟩
noncomputable def Fjoin0 (F:Nat) :Option Ans:=runF Gjoin0 Tryz.f106 F [.p .nil,.p (.str ([]:List UInt8))]
theorem Fjoin0_eq (F:Nat) :Fjoin0 F =some (.p (.str ([]:List UInt8)),[]):=by kernel_rfl
theorem fn_join0 (F:Nat)  (r:AV) (h:(∃ M vs,ARels γ0 M [.p .nil,.p (.str ([]:List UInt8))] vs)->Fjoin0 F =some (r,[])):FnP Tryz.prog 106 [.p .nil,.p (.str ([]:List UInt8))] r:=
 FnP_run Gjoin0 F rfl (EnvOk_mk (l:=[]) trivial) (EnvROk_mk (l:=[]) trivial) (Checked.mixed Tryz.checked) (fn:=Tryz.f106) (by kernel_rfl) (by kernel_rfl) rfl h
def sp_join0:List AV->Option (AV×Option Prop)
 | [.p .nil,.p (.str [])]=>some (.p (.str []),none)
 | _=>none
theorem ok_join0:SpecOk Tryz.prog 106 sp_join0:=by
 intro zs r ok he hok
 unfold sp_join0 at he
 split at he
 .cases he; exact ⟨by kernel_rfl,fn_join0 0 _ fun _=>by rw [Fjoin0_eq]⟩
 .cases he
def rd0:AObj:=.cells [.p (.str []),.p (.int .i64 0),.p .nil,.p (.str []),.p (.bool false),.p .nil]
noncomputable def Gdrop0:Cfg:=⟨Tryz.prog,mkEnv [],mkEnvR [],11,[70000],[],[]⟩
noncomputable def Fdrop0 (F:Nat) :Option Ans:=runFR Gdrop0 Tryz.f72 ⟨[],[⟨.fix 70000,70000,.cells []⟩]⟩ [70000] F [.ref 70000 0] [(70000,.cells [.p (.str ([]:List UInt8)),.p (.int .i64 (0:Int)),.p .nil,.p (.str ([]:List UInt8)),.p (.bool false),.p .nil])]
theorem Fdrop0_eq (F:Nat) :Fdrop0 F =some (.tup [],[(70000,.cells [.p (.str ([]:List UInt8)),.p (.int .i64 (0:Int)),.p .nil,.p (.str ([]:List UInt8)),.p (.bool false),.p .nil])]):=by kernel_rfl
theorem fn_drop0 (F:Nat)  (r:AV) (os:List (Nat×AObj)) (h:(∃ γ M w vs,ARels γ M [.ref 70000 0] vs/\Objs γ M w (fun i=>lookO i [(70000,.cells [.p (.str ([]:List UInt8)),.p (.int .i64 (0:Int)),.p .nil,.p (.str ([]:List UInt8)),.p (.bool false),.p .nil])]) (fun b=>b < w.heap.size))->Fdrop0 F =some (r,os)):FnR Tryz.prog 72 [.ref 70000 0] [(70000,.cells [.p (.str ([]:List UInt8)),.p (.int .i64 (0:Int)),.p .nil,.p (.str ([]:List UInt8)),.p (.bool false),.p .nil])] [70000] r os:=
 FnR_run Gdrop0 ⟨[],[⟨.fix 70000,70000,.cells []⟩]⟩ [70000] F rfl (EnvOk_mk (l:=[]) trivial) (EnvROk_mk (l:=[]) trivial) (Checked.mixed Tryz.checked) (fn:=Tryz.f72) (by kernel_rfl) (by kernel_rfl) rfl h
def sp_drop0:RSpec:=⟨[false],fun args ib=>match args,ib with
 | [.ref 70000 0],[(70000,.cells [.p (.str []),.p (.int .i64 0),.p .nil,.p (.str []),.p (.bool false),.p .nil])]=>some (([70000],.tup []),([(70000,rd0)],none))
 | _,_=>none⟩
theorem ok_drop0:SpecROk Tryz.prog 72 sp_drop0:=by
 intro args ib kept r outs ok he hok
 simp only [sp_drop0] at he
 split at he
 .cases he; exact ⟨by kernel_rfl,fn_drop0 0 _ _ fun _=>by rw [Fdrop0_eq]; rfl⟩
 .cases he
noncomputable def Gtell0:Cfg:=⟨Tryz.prog,mkEnv [(106,sp_join0),(107,sp_apart0)],mkEnvR [(72,sp_drop0)],55,[70000],[],[([1,1,1],[1])]⟩
noncomputable def Ftell0 (F:Nat) :Option Ans:=runFR Gtell0 Tryz.f73 ⟨[],[⟨.fix 70000,70000,.cells []⟩]⟩ [70000] F [.ref 70000 0] [(70000,.cells [.p (.str ([]:List UInt8)),.p (.int .i64 (0:Int)),.p .nil,.p (.str ([]:List UInt8)),.p (.bool false),.p .nil])]
theorem Ftell0_eq (F:Nat) :Ftell0 F =(((some (.tup [],[(70000,.cells [.p (.str ([]:List UInt8)),.p (.int .i64 (0:Int)),.p .nil,.p (.str ([]:List UInt8)),.p (.bool false),.p .nil])])))):=by
 have h:Ftell0 F =need ((!(([]:List UInt8) != ([]:List UInt8)))=true->(!(([]:List UInt8) != ([]:List UInt8)))=true) (need ((!(([]:List UInt8) != ([]:List UInt8)))=true->(!(([]:List UInt8) != ([]:List UInt8)))=true) (need ((([]:List UInt8) != ([]:List UInt8))=false->(!(([]:List UInt8) != ([]:List UInt8)))=true) (some (.tup [],[(70000,.cells [.p (.str ([]:List UInt8)),.p (.int .i64 (0:Int)),.p .nil,.p (.str ([]:List UInt8)),.p (.bool false),.p .nil])])))):=by kernel_rfl
 rw [h,need_pos (show (([]:List UInt8) != ([]:List UInt8))=false->(!(([]:List UInt8) != ([]:List UInt8)))=true from (fun q0=>(not_mk q0))),need_pos (show (!(([]:List UInt8) != ([]:List UInt8)))=true->(!(([]:List UInt8) != ([]:List UInt8)))=true from (fun q0=>q0)),need_pos (show (!(([]:List UInt8) != ([]:List UInt8)))=true->(!(([]:List UInt8) != ([]:List UInt8)))=true from (fun q0=>q0))]
theorem fn_tell0 (F:Nat)  (r:AV) (os:List (Nat×AObj)) (h:(∃ γ M w vs,ARels γ M [.ref 70000 0] vs/\Objs γ M w (fun i=>lookO i [(70000,.cells [.p (.str ([]:List UInt8)),.p (.int .i64 (0:Int)),.p .nil,.p (.str ([]:List UInt8)),.p (.bool false),.p .nil])]) (fun b=>b < w.heap.size))->Ftell0 F =some (r,os)):FnR Tryz.prog 73 [.ref 70000 0] [(70000,.cells [.p (.str ([]:List UInt8)),.p (.int .i64 (0:Int)),.p .nil,.p (.str ([]:List UInt8)),.p (.bool false),.p .nil])] [70000] r os:=
 FnR_run Gtell0 ⟨[],[⟨.fix 70000,70000,.cells []⟩]⟩ [70000] F rfl (EnvOk_mk (l:=[(106,sp_join0),(107,sp_apart0)]) ⟨ok_join0.any,ok_apart0.any,trivial⟩) (EnvROk_mk (l:=[(72,sp_drop0)]) ⟨ok_drop0,trivial⟩) (Checked.mixed Tryz.checked) (fn:=Tryz.f73) (by kernel_rfl) (by kernel_rfl) rfl h
def sp_tell0:RSpec:=⟨[false],fun args ib=>match args,ib with
 | [.ref 70000 0],[(70000,.cells [.p (.str []),.p (.int .i64 0),.p .nil,.p (.str []),.p (.bool false),.p .nil])]=>some (([70000],.tup []),([(70000,rd0)],none))
 | _,_=>none⟩
theorem ok_tell0:SpecROk Tryz.prog 73 sp_tell0:=by
 intro args ib kept r outs ok he hok
 simp only [sp_tell0] at he
 split at he
 .cases he; exact ⟨by kernel_rfl,fn_tell0 0 _ _ fun _=>by rw [Ftell0_eq]; rfl⟩
 .cases he
noncomputable def Galist0:Cfg:=⟨Tryz.prog,mkEnv [],mkEnvR [(73,sp_tell0)],153,[],[],[([0,1,1,1],[1])]⟩
noncomputable def Falist0 (F:Nat) :Option Ans:=runF Galist0 Tryz.f46 F [.p (.str ([]:List UInt8))]
theorem Falist0_eq (F:Nat) :Falist0 (F+1) =some (.p .nil,[]):=by kernel_rfl
theorem fn_alist0 (F:Nat)  (r:AV) (h:(∃ M vs,ARels γ0 M [.p (.str ([]:List UInt8))] vs)->Falist0 F =some (r,[])):FnP Tryz.prog 46 [.p (.str ([]:List UInt8))] r:=
 FnP_run Galist0 F rfl (EnvOk_mk (l:=[]) trivial) (EnvROk_mk (l:=[(73,sp_tell0)]) ⟨ok_tell0,trivial⟩) (Checked.mixed Tryz.checked) (fn:=Tryz.f46) (by kernel_rfl) (by kernel_rfl) rfl h
def sp_alist0:List AV->Option (AV×Option Prop)
 | [.p (.str [])]=>some (.p .nil,none)
 | _=>none
theorem ok_alist0:SpecOk Tryz.prog 46 sp_alist0:=by
 intro zs r ok he hok
 unfold sp_alist0 at he
 split at he
 .cases he; exact ⟨by kernel_rfl,fn_alist0 1 _ fun _=>by rw [Falist0_eq]⟩
 .cases he
end Go.Proofs.YtampckbjinodgaaGreatDoor
namespace Go.Proofs.YtampckbjinodgaaGreatDoor
open Go Go.Am
set_option linter.unusedVariables false
noncomputable def Gmore:Cfg:=⟨Tryz.prog,mkEnv [],mkEnvR [],7,[],[],[]⟩
noncomputable def Fmore (F:Nat) (x:Int):Option Ans:=runF Gmore Tryz.f111 F [.p (.int .i64 x)]
theorem Fmore_eq (F:Nat) (x:Int):Fmore F x=some (.p (.int .u8 (IntKind.u8.wrap (ibits .or .i64 (128:Int) (ibits .and .i64 x (63:Int))))),[]):=by kernel_rfl
theorem fn_more (F:Nat) (x:Int) (r:AV) (h:(∃ M vs,ARels γ0 M [.p (.int .i64 x)] vs)->Fmore F x=some (r,[])):FnP Tryz.prog 111 [.p (.int .i64 x)] r:=
 FnP_run Gmore F rfl (EnvOk_mk (l:=[]) trivial) (EnvROk_mk (l:=[]) trivial) (Checked.mixed Tryz.checked) (fn:=Tryz.f111) (by kernel_rfl) (by kernel_rfl) rfl h
def moreB (r:Int):UInt8:=UInt8.ofNat (128+r.toNat % 64)
def putN (n:Nat):List UInt8:=
 if n < 128 then [UInt8.ofNat n] else if n < 2048 then [UInt8.ofNat (192+n / 64),UInt8.ofNat (128+n % 64)]
 else if n < 65536 then [UInt8.ofNat (224+n / 4096),UInt8.ofNat (128+n / 64 % 64),UInt8.ofNat (128+n % 64)]
 else [UInt8.ofNat (240+n / 262144),UInt8.ofNat (128+n / 4096 % 64),UInt8.ofNat (128+n / 64 % 64),UInt8.ofNat (128+n % 64)]
abbrev badR (r:Int):Prop:=(r < 0\/r > 1114111)\/(r>=55296/\r<=57343)
def putS (r:Int):List UInt8:=if badR r then [] else putN r.toNat
theorem or_lead (a k b:Nat) (ha:a * 2 ^ k<=255) (hb:b < 2 ^ k) (hk:2 ^ k<=255):UInt8.ofNat (IntKind.u8.wrap (ibits .or .i64 ((a * 2 ^ k:Nat):Int) (b:Int))).toNat=UInt8.ofNat (a * 2 ^ k+b):=by
 rw [i64_or (by omega) (by omega),or_add _ _ _ hb,u8_of]
theorem lead192 (b:Nat) (hb:b < 64):UInt8.ofNat (IntKind.u8.wrap (ibits .or .i64 (192:Int) (b:Int))).toNat=UInt8.ofNat (192+b):=or_lead 3 6 b (by decide) hb (by decide)
theorem lead224 (b:Nat) (hb:b < 32):UInt8.ofNat (IntKind.u8.wrap (ibits .or .i64 (224:Int) (b:Int))).toNat=UInt8.ofNat (224+b):=or_lead 7 5 b (by decide) hb (by decide)
theorem lead240 (b:Nat) (hb:b < 16):UInt8.ofNat (IntKind.u8.wrap (ibits .or .i64 (240:Int) (b:Int))).toNat=UInt8.ofNat (240+b):=or_lead 15 4 b (by decide) hb (by decide)
theorem more_eq (r:Int) (h:0<=r/\r<=1114111):Fmore 0 r=some (.p (.int .u8 ((moreB r).toNat:Int)),[]):=by
 obtain ⟨n,rfl⟩:=Int.eq_ofNat_of_zero_le h.1
 rw [Fmore_eq]
 have e:ibits .or .i64 (128:Int) (ibits .and .i64 (n:Int) (63:Int))=((128+n % 64:Nat):Int):=by
  rw [show (63:Int)=((63:Nat):Int) from rfl,i64_and (by omega) (by decide),show (63:Nat)=2 ^ 6 - 1 from rfl,and_mod]
  rw [show (128:Int)=((1 * 2 ^ 7:Nat):Int) from rfl,i64_or (by omega) (by omega),or_add _ _ _ (by omega)]
 rw [e,u8_wrap,moreB]
 have:((128+n % 64:Nat):Int) % 256=((UInt8.ofNat (128+((n:Int)).toNat % 64)).toNat:Int):=by
  rw [UInt8.toNat_ofNat',Int.toNat_natCast]; omega
 rw [this]
def sp_more:List AV->Option (AV×Option Prop)
 | [.p (.int .i64 x)]=>some (.p (.int .u8 ((moreB x).toNat:Int)),some (0<=x/\x<=1114111))
 | _=>none
theorem ok_more:SpecOk Tryz.prog 111 sp_more:=by
 intro zs r ok he hok
 unfold sp_more at he
 split at he
 .cases he; exact ⟨by kernel_rfl,fn_more 0 _ _ fun hx=>more_eq _ hok⟩
 .cases he
noncomputable def cPut:Code:=bodyOf Tryz.f77
noncomputable def GPut:Cfg:=⟨Tryz.prog,mkEnv [(111,sp_more)],mkEnvR [],64,[],[([1,0,0,1],⟨[0,3],[]⟩)],[]⟩
noncomputable def BPut_1 (F:Nat) (x:Int) (vc1:Bool):Option Ans:=runB GPut cPut (kP Tryz.prog Tryz.f77.results.toList) F [] [1,0,0,1] [(0,.p (.int .i64 x)),(3,.p (.bool vc1))] []
noncomputable def FPut (F:Nat) (x:Int):Option Ans:=runF GPut Tryz.f77 F [.p (.int .i64 x)]
theorem BPut_1_eq (F:Nat) (x:Int) (vc1:Bool):BPut_1 F x vc1=cond (vc1) (some (.p (.str ([]:List UInt8)),[])) (cond (decide (x < (128:Int))) (some (.p (.str [UInt8.ofNat (IntKind.u8.wrap x).toNat]),[])) (cond (decide (x < (2048:Int))) ((need (0<=x/\x<=1114111) (some (.p (.str [UInt8.ofNat (IntKind.u8.wrap (ibits .or .i64 (192:Int) (x.fdiv 64))).toNat,UInt8.ofNat (((moreB x).toNat:Int)).toNat]),[])))) (cond (decide (x < (65536:Int))) (((need (0<=(x.fdiv 64)/\(x.fdiv 64)<=1114111) (need (0<=x/\x<=1114111) (some (.p (.str [UInt8.ofNat (IntKind.u8.wrap (ibits .or .i64 (224:Int) (x.fdiv 4096))).toNat,UInt8.ofNat (((moreB (x.fdiv 64)).toNat:Int)).toNat,UInt8.ofNat (((moreB x).toNat:Int)).toNat]),[])))))) (((need (0<=(x.fdiv 4096)/\(x.fdiv 4096)<=1114111) ((need (0<=(x.fdiv 64)/\(x.fdiv 64)<=1114111) (need (0<=x/\x<=1114111) (some (.p (.str [UInt8.ofNat (IntKind.u8.wrap (ibits .or .i64 (240:Int) (x.fdiv 262144))).toNat,UInt8.ofNat (((moreB (x.fdiv 4096)).toNat:Int)).toNat,UInt8.ofNat (((moreB (x.fdiv 64)).toNat:Int)).toNat,UInt8.ofNat (((moreB x).toNat:Int)).toNat]),[]))))))))))):=by
 have h:BPut_1 F x vc1=cond (vc1) (some (.p (.str ([]:List UInt8)),[])) (cond (decide (x < (128:Int))) (some (.p (.str [UInt8.ofNat (IntKind.u8.wrap x).toNat]),[])) (cond (decide (x < (2048:Int))) (need (0<=(6:Int)) (need (0<=x/\x<=1114111) (some (.p (.str [UInt8.ofNat (IntKind.u8.wrap (ibits .or .i64 (192:Int) (x.fdiv 64))).toNat,UInt8.ofNat (((moreB x).toNat:Int)).toNat]),[])))) (cond (decide (x < (65536:Int))) (need (0<=(12:Int)) (need (0<=(6:Int)) (need (0<=(x.fdiv 64)/\(x.fdiv 64)<=1114111) (need (0<=x/\x<=1114111) (some (.p (.str [UInt8.ofNat (IntKind.u8.wrap (ibits .or .i64 (224:Int) (x.fdiv 4096))).toNat,UInt8.ofNat (((moreB (x.fdiv 64)).toNat:Int)).toNat,UInt8.ofNat (((moreB x).toNat:Int)).toNat]),[])))))) (need (0<=(18:Int)) (need (0<=(12:Int)) (need (0<=(x.fdiv 4096)/\(x.fdiv 4096)<=1114111) (need (0<=(6:Int)) (need (0<=(x.fdiv 64)/\(x.fdiv 64)<=1114111) (need (0<=x/\x<=1114111) (some (.p (.str [UInt8.ofNat (IntKind.u8.wrap (ibits .or .i64 (240:Int) (x.fdiv 262144))).toNat,UInt8.ofNat (((moreB (x.fdiv 4096)).toNat:Int)).toNat,UInt8.ofNat (((moreB (x.fdiv 64)).toNat:Int)).toNat,UInt8.ofNat (((moreB x).toNat:Int)).toNat]),[]))))))))))):=by kernel_rfl
 rw [h,need_pos (show 0<=(6:Int) from (by decide)),need_pos (show 0<=(6:Int) from (by decide)),need_pos (show 0<=(6:Int) from (by decide)),need_pos (show 0<=(12:Int) from (by decide)),need_pos (show 0<=(12:Int) from (by decide)),need_pos (show 0<=(18:Int) from (by decide))]
theorem FPut_eq (F:Nat) (x:Int):FPut F x=BPut_1 F x (((decide (x < (0:Int)))||(decide (x > (1114111:Int))))||((decide (x>=(55296:Int)))&&(decide (x<=(57343:Int))))):=
 Eq.trans (show FPut F x=need ((!(decide (x < (0:Int))))=true->(!(decide (x < (0:Int))))=true) (need ((decide (x < (0:Int)))=false->(!(decide (x < (0:Int))))=true) (need ((!((decide (x < (0:Int)))||(decide (x > (1114111:Int)))))=true->(!((decide (x < (0:Int)))||(decide (x > (1114111:Int)))))=true) (need ((!((decide (x < (0:Int)))||(decide (x > (1114111:Int)))))=true->(!((decide (x < (0:Int)))||(decide (x > (1114111:Int)))))=true) (need (((!((decide (x < (0:Int)))||(decide (x > (1114111:Int)))))&&(decide (x>=(55296:Int))))=true->((!((decide (x < (0:Int)))||(decide (x > (1114111:Int)))))&&(decide (x>=(55296:Int))))=true) (need ((!((decide (x < (0:Int)))||(decide (x > (1114111:Int)))))=true->(!((decide (x < (0:Int)))||(decide (x > (1114111:Int)))))=true) (need ((!((decide (x < (0:Int)))||(decide (x > (1114111:Int)))))=true->(decide (x>=(55296:Int)))=true->((!((decide (x < (0:Int)))||(decide (x > (1114111:Int)))))&&(decide (x>=(55296:Int))))=true) (need (((decide (x < (0:Int)))||(decide (x > (1114111:Int))))=false->(!((decide (x < (0:Int)))||(decide (x > (1114111:Int)))))=true) (BPut_1 F x (((decide (x < (0:Int)))||(decide (x > (1114111:Int))))||((decide (x>=(55296:Int)))&&(decide (x<=(57343:Int))))))))))))) by kernel_rfl) (need_strike (show (!(decide (x < (0:Int))))=true->(!(decide (x < (0:Int))))=true from (fun q0=>q0)) (need_strike (show (decide (x < (0:Int)))=false->(!(decide (x < (0:Int))))=true from (fun q0=>(not_mk q0))) (need_strike (show (!((decide (x < (0:Int)))||(decide (x > (1114111:Int)))))=true->(!((decide (x < (0:Int)))||(decide (x > (1114111:Int)))))=true from (fun q0=>q0)) (need_strike (show (!((decide (x < (0:Int)))||(decide (x > (1114111:Int)))))=true->(!((decide (x < (0:Int)))||(decide (x > (1114111:Int)))))=true from (fun q0=>q0)) (need_strike (show ((!((decide (x < (0:Int)))||(decide (x > (1114111:Int)))))&&(decide (x>=(55296:Int))))=true->((!((decide (x < (0:Int)))||(decide (x > (1114111:Int)))))&&(decide (x>=(55296:Int))))=true from (fun q0=>q0)) (need_strike (show (!((decide (x < (0:Int)))||(decide (x > (1114111:Int)))))=true->(!((decide (x < (0:Int)))||(decide (x > (1114111:Int)))))=true from (fun q0=>q0)) (need_strike (show (!((decide (x < (0:Int)))||(decide (x > (1114111:Int)))))=true->(decide (x>=(55296:Int)))=true->((!((decide (x < (0:Int)))||(decide (x > (1114111:Int)))))&&(decide (x>=(55296:Int))))=true from (fun q0 q1=>(and_mk q0 q1))) (need_strike (show ((decide (x < (0:Int)))||(decide (x > (1114111:Int))))=false->(!((decide (x < (0:Int)))||(decide (x > (1114111:Int)))))=true from (fun q0=>(not_mk q0))) (rfl)))))))))
theorem fn_Put (F:Nat) (x:Int) (r:AV) (h:(∃ M vs,ARels γ0 M [.p (.int .i64 x)] vs)->FPut F x=some (r,[])):FnP Tryz.prog 77 [.p (.int .i64 x)] r:=
 FnP_run GPut F rfl (EnvOk_mk (l:=[(111,sp_more)]) ⟨ok_more.any,trivial⟩) (EnvROk_mk (l:=[]) trivial) (Checked.mixed Tryz.checked) (fn:=Tryz.f77) (by kernel_rfl) (by kernel_rfl) rfl h
theorem fd (n k:Nat):((n:Int)).fdiv ((2 ^ k:Nat):Int)=((n / 2 ^ k:Nat):Int):=by
 rw [Int.fdiv_eq_ediv_of_nonneg _ (Int.natCast_nonneg _),Int.natCast_ediv]
theorem bad_dec (r:Int):(((decide (r < (0:Int)))||(decide (r > (1114111:Int))))||((decide (r>=(55296:Int)))&&(decide (r<=(57343:Int)))))=decide (badR r):=by
 simp [badR,Bool.decide_or,Bool.decide_and]
theorem more_of (n:Nat):UInt8.ofNat (((moreB (n:Int)).toNat:Int)).toNat=UInt8.ofNat (128+n % 64):=by
 rw [Int.toNat_natCast,UInt8.ofNat_toNat]; rfl
theorem Put_eq (r:Int) (h:-1000000000000<=r/\r<=1000000000000):FPut 0 r=some (.p (.str (putS r)),[]):=by
 rw [FPut_eq,bad_dec,BPut_1_eq,putS]
 by_cases hb:badR r
 .refine cond_t (by simpa using hb) ?_
  rw [if_pos hb]
 .refine cond_f (by simpa using hb) ?_
  rw [if_neg hb]
  have h0:0<=r:=by unfold badR at hb; omega
  have h1:r<=1114111:=by unfold badR at hb; omega
  obtain ⟨n,rfl⟩:=Int.eq_ofNat_of_zero_le h0
  rw [show ((n:Int)).toNat=n from rfl,putN]
  have e1:((n:Int)).fdiv 64=((n / 64:Nat):Int):=fd n 6
  have e2:((n:Int)).fdiv 4096=((n / 4096:Nat):Int):=fd n 12
  have e3:((n:Int)).fdiv 262144=((n / 262144:Nat):Int):=fd n 18
  simp only [e1,e2,e3,more_of]
  by_cases c1:n < 128
  .refine cond_t (by simp; omega) ?_
   rw [if_pos c1,u8_of]
  .refine cond_f (by simp; omega) ?_
   rw [if_neg c1]
   by_cases c2:n < 2048
   .refine cond_t (by simp; omega) ?_
    refine need_mk (by first | omega | (unfold i64ok; omega) | (simp only [List.length_cons,List.length_nil]; omega) | (simp; omega) | simp) ?_
    rw [if_pos c2,lead192 _ (by omega)]
   .refine cond_f (by simp; omega) ?_
    rw [if_neg c2]
    by_cases c3:n < 65536
    .refine cond_t (by simp; omega) ?_
     refine need_mk (by first | omega | (unfold i64ok; omega) | (simp only [List.length_cons,List.length_nil]; omega) | (simp; omega) | simp) ?_
     refine need_mk (by first | omega | (unfold i64ok; omega) | (simp only [List.length_cons,List.length_nil]; omega) | (simp; omega) | simp) ?_
     rw [if_pos c3,lead224 _ (by omega)]
    .refine cond_f (by simp; omega) ?_
     refine need_mk (by first | omega | (unfold i64ok; omega) | (simp only [List.length_cons,List.length_nil]; omega) | (simp; omega) | simp) ?_
     refine need_mk (by first | omega | (unfold i64ok; omega) | (simp only [List.length_cons,List.length_nil]; omega) | (simp; omega) | simp) ?_
     refine need_mk (by first | omega | (unfold i64ok; omega) | (simp only [List.length_cons,List.length_nil]; omega) | (simp; omega) | simp) ?_
     rw [if_neg c3,lead240 _ (by omega)]
def sp_Put:List AV->Option (AV×Option Prop)
 | [.p (.int .i64 x)]=>some (.p (.str (putS x)),some (-1000000000000<=x/\x<=1000000000000))
 | _=>none
theorem ok_Put:SpecOk Tryz.prog 77 sp_Put:=by
 intro zs r ok he hok
 unfold sp_Put at he
 split at he
 .cases he; exact ⟨by kernel_rfl,fn_Put 0 _ _ fun hx=>Put_eq _ hok⟩
 .cases he
end Go.Proofs.YtampckbjinodgaaGreatDoor
