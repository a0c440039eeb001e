/-
  Lifted functions, and facts about them.
-/
import Derived.Test.YtampckbjinodgaaGreatDoorRows
import Derived.Test.YtampckbjinodgaaGreatDoorAmC
import Derived.Test.YtampckbjinodgaaGreatDoorC01
import Derived.Test.YtampckbjinodgaaGreatDoorC14
namespace Go.Proofs.YtampckbjinodgaaGreatDoor
open Go Go.Am
set_option linter.unusedVariables false
theorem box_arg {c:Ec} {f:Nat->PV} {x:Elt c} (h:toDat c (rangeL f (wid c) 0)=some x) {M:Mem} {v:Value} (hv:ARel γ0 M (.p (.box (wid c) f)) v):ARel γ0 M (.p (.box (wid c) (cell c x))) v:=.p _ _ (box_dat h hv.p_inv)
theorem FnP_args {P:Program} {f:FuncId} {args args':List AV} {r:AV} (h:∀ (M:Mem) (vs:List Value),ARels γ0 M args vs->ARels γ0 M args' vs) (k:FnP P f args' r):FnP P f args r:=
 fun M w vs hM hvs=>k M w vs hM (h M vs hvs)
abbrev MailT:=Int×Int×List UInt8×Int×List (List UInt8)×List (Int×Int)×Int×Int
abbrev OpenT:=MailT×List (List UInt8×List UInt8)×List UInt8
abbrev FoundT:=OpenT×List UInt8×List UInt8
abbrev TermT:=Int×Int×List UInt8×List UInt8×List (Int×Int)×List Int
abbrev mailC:Ec:=.pair (.int .i64) (.pair (.int .i64) (.pair .str (.pair (.int .i64) (.pair (.list .str) (.pair (.list (.pair (.int .i64) (.int .i64))) (.pair (.int .i64) (.int .i64)))))))
abbrev openC:Ec:=.pair mailC (.pair (.list (.pair .str .str)) .str)
abbrev foundC:Ec:=.pair (.box openC) (.pair .str .str)
abbrev termC:Ec:=.pair (.int .i64) (.pair (.int .i64) (.pair .str (.pair .str (.pair (.list (.pair (.int .i64) (.int .i64))) (.list (.int .i64))))))
def openP (m:MailT):OpenT:=(m,(splitS m.2.2.1 0 (m.2.2.1.length:Int)).1,m.2.2.1.drop (splitS m.2.2.1 0 (m.2.2.1.length:Int)).2.toNat)
noncomputable def Gopened:Cfg:=⟨Tryz.prog,mkEnv [(34,sp_split)],mkEnvR [],22,[],[],[([888888,1,1,1],[21,72])]⟩
noncomputable def Fopened (F:Nat) (id th:Int) (tx:List UInt8) (at_:Int) (ke:List (List UInt8)) (me:List (Int×Int)) (mo bo:Int):Option Ans:=runF Gopened Tryz.f22 F [.agg [.p (.int .i64 id),.p (.int .i64 th),.p (.str tx),.p (.int .i64 at_),.p (.list 1 (.dat .str ke)),.p (.list 2 (.dat (.pair (.int .i64) (.int .i64)) me)),.p (.int .i64 mo),.p (.int .i64 bo)]]
theorem Fopened_eq (F:Nat) (id th:Int) (tx:List UInt8) (at_:Int) (ke:List (List UInt8)) (me:List (Int×Int)) (mo bo:Int):Fopened F id th tx at_ ke me mo bo=need (tx.length<=1000000) (need (0<=((splitS tx (0:Int) (tx.length:Int)).2)/\((splitS tx (0:Int) (tx.length:Int)).2)<=(tx.length:Int)) (some (.p (.box 10 (cell openC ((id,(th,(tx,(at_,(ke,(me,(mo,bo))))))),((splitS tx (0:Int) (tx.length:Int)).1,tx.drop ((splitS tx (0:Int) (tx.length:Int)).2).toNat)))),[]))):=by kernel_rfl
theorem fn_opened (F:Nat) (id th:Int) (tx:List UInt8) (at_:Int) (ke:List (List UInt8)) (me:List (Int×Int)) (mo bo:Int) (r:AV) (h:(∃ M vs,ARels γ0 M [.agg [.p (.int .i64 id),.p (.int .i64 th),.p (.str tx),.p (.int .i64 at_),.p (.list 1 (.dat .str ke)),.p (.list 2 (.dat (.pair (.int .i64) (.int .i64)) me)),.p (.int .i64 mo),.p (.int .i64 bo)]] vs)->Fopened F id th tx at_ ke me mo bo=some (r,[])):FnP Tryz.prog 22 [.agg [.p (.int .i64 id),.p (.int .i64 th),.p (.str tx),.p (.int .i64 at_),.p (.list 1 (.dat .str ke)),.p (.list 2 (.dat (.pair (.int .i64) (.int .i64)) me)),.p (.int .i64 mo),.p (.int .i64 bo)]] r:=
 FnP_run Gopened F rfl (EnvOk_mk (l:=[(34,sp_split)]) ⟨ok_split.any,trivial⟩) (EnvROk_mk (l:=[]) trivial) (Checked.mixed Tryz.checked) (fn:=Tryz.f22) (by kernel_rfl) (by kernel_rfl) rfl h
theorem opened_eq (id th:Int) (tx:List UInt8) (at_:Int) (ke:List (List UInt8)) (me:List (Int×Int)) (mo bo:Int) (h:tx.length<=1000000):Fopened 0 id th tx at_ ke me mo bo=some (.p (.box 10 (cell openC (openP (id,th,tx,at_,ke,me,mo,bo)))),[]):=by
 rw [Fopened_eq]
 exact need_mk h (need_mk (body_all tx) rfl)
def sp_opened:List AV->Option (AV×Option Prop)
 | [.agg [.p (.int .i64 id),.p (.int .i64 th),.p (.str tx),.p (.int .i64 at_),.p (.list 1 (.dat .str ke)),.p (.list 2 (.dat (.pair (.int .i64) (.int .i64)) me)),.p (.int .i64 mo),.p (.int .i64 bo)]]=>some (.p (.box 10 (cell openC (openP (id,th,tx,at_,ke,me,mo,bo)))),some (tx.length<=1000000))
 | _=>none
theorem ok_opened:SpecOk Tryz.prog 22 sp_opened:=by
 intro zs r ok he hok
 unfold sp_opened at he
 split at he
 .cases he; exact ⟨by kernel_rfl,fn_opened 0 _ _ _ _ _ _ _ _ _ fun hx=>opened_eq _ _ _ _ _ _ _ _ hok⟩
 .cases he
noncomputable def Gfrom0:Cfg:=⟨Tryz.prog,mkEnv [(45,sp_first),(46,sp_alist0)],mkEnvR [],30,[],[],[]⟩
noncomputable def Ffrom0 (F:Nat) (m:MailT) (b:List UInt8):Option Ans:=runF Gfrom0 Tryz.f26 F [.p (.box 10 (cell openC (m,([]:List (List UInt8×List UInt8)),b)))]
theorem Ffrom0_eq (F:Nat) (m:MailT) (b:List UInt8):Ffrom0 F m b=need (firstok ([]:List (List UInt8×List UInt8)) ([102,114,111,109]:List UInt8)) (some (.p (.str ([]:List UInt8)),[])):=by kernel_rfl
theorem fn_from0 (F:Nat) (m:MailT) (b:List UInt8) (r:AV) (h:(∃ M vs,ARels γ0 M [.p (.box 10 (cell openC (m,([]:List (List UInt8×List UInt8)),b)))] vs)->Ffrom0 F m b=some (r,[])):FnP Tryz.prog 26 [.p (.box 10 (cell openC (m,([]:List (List UInt8×List UInt8)),b)))] r:=
 FnP_run Gfrom0 F rfl (EnvOk_mk (l:=[(45,sp_first),(46,sp_alist0)]) ⟨ok_first.any,ok_alist0.any,trivial⟩) (EnvROk_mk (l:=[]) trivial) (Checked.mixed Tryz.checked) (fn:=Tryz.f26) (by kernel_rfl) (by kernel_rfl) rfl h
def sp_from0:List AV->Option (AV×Option Prop)
 | [.p (.box 10 f)]=>match toDat openC (rangeL f 10 0) with
  | some x=>some (.p (.str []),some (x.2.1=[]))
  | none=>none
 | _=>none
theorem ok_from0:SpecOk Tryz.prog 26 sp_from0:=by
 intro zs r ok he hok
 unfold sp_from0 at he
 split at he
 .rename_i f
  split at he
  .rename_i x hx
   cases he
   obtain ⟨m,l,b⟩:=x
   have hok:l=[]:=hok
   subst hok
   refine ⟨by kernel_rfl,FnP_args (fun M vs h=>?_) (fn_from0 0 m b _ fun _=>by rw [Ffrom0_eq]; exact need_mk ⟨by simp,(fun x hx=>by cases hx),by simp⟩ rfl)⟩
   cases h with | cons h1 h=>
   cases h
   exact .cons (box_arg (c:=openC) hx h1) .nil
  .cases he
 .cases he
noncomputable def Gnan:Cfg:=⟨Tryz.prog,mkEnv [],mkEnvR [],6,[],[],[]⟩
noncomputable def Fnan (F:Nat) (x:Int):Option Ans:=runF Gnan Tryz.f86 F [.p (.int .i64 x)]
theorem Fnan_eq (F:Nat) (x:Int):Fnan F x=some (.p (.bool (x != x)),[]):=by kernel_rfl
theorem fn_nan (F:Nat) (x:Int) (r:AV) (h:(∃ M vs,ARels γ0 M [.p (.int .i64 x)] vs)->Fnan F x=some (r,[])):FnP Tryz.prog 86 [.p (.int .i64 x)] r:=
 FnP_run Gnan F rfl (EnvOk_mk (l:=[]) trivial) (EnvROk_mk (l:=[]) trivial) (Checked.mixed Tryz.checked) (fn:=Tryz.f86) (by kernel_rfl) (by kernel_rfl) rfl h
theorem nan_eq (x:Int):Fnan 0 x=some (.p (.bool false),[]):=by rw [Fnan_eq]; simp
def sp_nan:List AV->Option (AV×Option Prop)
 | [.p (.int .i64 x)]=>some (.p (.bool false),none)
 | _=>none
theorem ok_nan:SpecOk Tryz.prog 86 sp_nan:=by
 intro zs r ok he hok
 unfold sp_nan at he
 split at he
 .cases he; exact ⟨by kernel_rfl,fn_nan 0 _ _ fun hx=>nan_eq _⟩
 .cases he
noncomputable def GcmpI:Cfg:=⟨Tryz.prog,mkEnv [(86,sp_nan)],mkEnvR [],20,[],[],[]⟩
noncomputable def FcmpI (F:Nat) (x y:Int):Option Ans:=runF GcmpI Tryz.f52 F [.p (.int .i64 x),.p (.int .i64 y)]
theorem FcmpI_eq (F:Nat) (x y:Int):FcmpI F x y=cond (decide (x < y)) (some (.p (.int .i64 (-1:Int)),[])) (cond (decide (x > y)) (some (.p (.int .i64 (1:Int)),[])) (some (.p (.int .i64 (0:Int)),[]))):=by kernel_rfl
theorem fn_cmpI (F:Nat) (x y:Int) (r:AV) (h:(∃ M vs,ARels γ0 M [.p (.int .i64 x),.p (.int .i64 y)] vs)->FcmpI F x y=some (r,[])):FnP Tryz.prog 52 [.p (.int .i64 x),.p (.int .i64 y)] r:=
 FnP_run GcmpI F rfl (EnvOk_mk (l:=[(86,sp_nan)]) ⟨ok_nan.any,trivial⟩) (EnvROk_mk (l:=[]) trivial) (Checked.mixed Tryz.checked) (fn:=Tryz.f52) (by kernel_rfl) (by kernel_rfl) rfl h
def cmpI (x y:Int):Int:=if x < y then -1 else if x > y then 1 else 0
theorem cmpI_eq (x y:Int):FcmpI 0 x y=some (.p (.int .i64 (cmpI x y)),[]):=by
 rw [FcmpI_eq,cmpI]
 by_cases h:x < y
 .rw [if_pos h]; exact cond_t (by simpa using h) rfl
 .rw [if_neg h]
  refine cond_f (by simpa using h) ?_
  by_cases h2:x > y
  .rw [if_pos h2]; exact cond_t (by simpa using h2) rfl
  .rw [if_neg h2]; exact cond_f (by simpa using h2) rfl
def sp_cmpI:List AV->Option (AV×Option Prop)
 | [.p (.int .i64 x),.p (.int .i64 y)]=>some (.p (.int .i64 (cmpI x y)),none)
 | _=>none
theorem ok_cmpI:SpecOk Tryz.prog 52 sp_cmpI:=by
 intro zs r ok he hok
 unfold sp_cmpI at he
 split at he
 .cases he; exact ⟨by kernel_rfl,fn_cmpI 0 _ _ _ fun hx=>cmpI_eq _ _⟩
 .cases he
noncomputable def Gcomp0:Cfg:=⟨Tryz.prog,mkEnv [(52,sp_cmpI)],mkEnvR [],41,[],[],[([888888,1],[4,65,5,65])]⟩
noncomputable def Fcomp0 (F:Nat) (pa:OpenT) (sa ua:List UInt8) (pb:OpenT) (sb ub:List UInt8):Option Ans:=runF Gcomp0 Tryz.f30 F [.p .nil,.agg [.p (.box 10 (cell openC pa)),.p (.str sa),.p (.str ua)],.agg [.p (.box 10 (cell openC pb)),.p (.str sb),.p (.str ub)]]
theorem Fcomp0_eq (F:Nat) (pa:OpenT) (sa ua:List UInt8) (pb:OpenT) (sb ub:List UInt8):Fcomp0 (F+1) pa sa ua pb sb ub=some (.p (.int .i64 (cmpI pa.1.1 pb.1.1)),[]):=by kernel_rfl
theorem fn_comp0 (F:Nat) (pa:OpenT) (sa ua:List UInt8) (pb:OpenT) (sb ub:List UInt8) (r:AV) (h:(∃ M vs,ARels γ0 M [.p .nil,.agg [.p (.box 10 (cell openC pa)),.p (.str sa),.p (.str ua)],.agg [.p (.box 10 (cell openC pb)),.p (.str sb),.p (.str ub)]] vs)->Fcomp0 F pa sa ua pb sb ub=some (r,[])):FnP Tryz.prog 30 [.p .nil,.agg [.p (.box 10 (cell openC pa)),.p (.str sa),.p (.str ua)],.agg [.p (.box 10 (cell openC pb)),.p (.str sb),.p (.str ub)]] r:=
 FnP_run Gcomp0 F rfl (EnvOk_mk (l:=[(52,sp_cmpI)]) ⟨ok_cmpI.any,trivial⟩) (EnvROk_mk (l:=[]) trivial) (Checked.mixed Tryz.checked) (fn:=Tryz.f30) (by kernel_rfl) (by kernel_rfl) rfl h
def sp_comp0:List AV->Option (AV×Option Prop)
 | [.p .nil,.agg [.p (.box 10 f),.p (.str _),.p (.str _)],.agg [.p (.box 10 g),.p (.str _),.p (.str _)]]=>match toDat openC (rangeL f 10 0),toDat openC (rangeL g 10 0) with
  | some x,some y=>some (.p (.int .i64 (cmpI x.1.1 y.1.1)),none)
  | _,_=>none
 | _=>none
theorem agg3 {M:Mem} {f:Nat->PV} {x:Elt openC} (h:toDat openC (rangeL f 10 0)=some x) {a b:AV} {v:Value} (hv:ARel γ0 M (.agg [.p (.box 10 f),a,b]) v):ARel γ0 M (.agg [.p (.box 10 (cell openC x)),a,b]) v:=by
 obtain ⟨vs,rfl,hs,ht⟩:=hv.agg_inv
 refine .agg _ _ (by simpa using hs) fun i hi=>?_
 match i,hi with
 | 0,_=>exact box_arg (c:=openC) h (ht 0 (by simp))
 | 1,_=>exact ht 1 (by simp)
 | 2,_=>exact ht 2 (by simp)
theorem ok_comp0:SpecOk Tryz.prog 30 sp_comp0:=by
 intro zs r ok he hok
 unfold sp_comp0 at he
 split at he
 .rename_i f s1 s2 g s3 s4
  split at he
  .rename_i x y hx hy
   cases he
   refine ⟨by kernel_rfl,FnP_args (fun M vs h=>?_) (fn_comp0 1 x s1 s2 y s3 s4 _ fun _=>by rw [Fcomp0_eq])⟩
   cases h with | cons h1 h=>
   cases h with | cons h2 h=>
   cases h with | cons h3 h=>
   cases h
   exact .cons h1 (.cons (agg3 hx h2) (.cons (agg3 hy h3) .nil))
  .cases he
 .cases he
end Go.Proofs.YtampckbjinodgaaGreatDoor
namespace Go.Proofs.YtampckbjinodgaaGreatDoor
open Go Go.Am
set_option linter.unusedVariables false
theorem pList_row {a:Ec} {k:Nat} {R:Go.Am.Rows} {l:List (Elt a)} (h:pList a (.list k R)=some l):R=.dat a l/\k=wid a:=by
 cases R with
 | fn n f=>cases h
 | dat a' l'=>
  simp only [pList] at h
  split at h
  .rename_i he hk heq
   subst he; cases h
   exact ⟨rfl,Nat.eq_of_beq_eq_true hk⟩
  .cases h
def sort2:List FoundT->List FoundT
 | [a,b]=>if cmpI b.1.1.1 a.1.1.1 < 0 then [b,a] else [a,b]
 | l=>l
theorem sort2_len:∀ l:List FoundT,l.length=2->(sort2 l).length=2
 | [a,b],_=>by rw [sort2]; split <;> rfl
noncomputable def cins0:Code:=bodyOf Tryz.f82
noncomputable def Gins0:Cfg:=⟨Tryz.prog,mkEnv [(30,sp_comp0)],mkEnvR [],53,[70000],[([0,1],⟨[0,1,2,3,8],[⟨.fix 70000,70000,.cells []⟩]⟩),([0,1,0,0,1,0,0,1],⟨[0,1,2,3,8,9],[⟨.fix 70000,70000,.cells []⟩]⟩),([1,0,0,0,1,0,0,1,0,0,1],⟨[0,1,2,3,8,9,34],[⟨.fix 70000,70000,.cells []⟩]⟩),([1,1,0,0,1,0,0,1,0,0,1],⟨[0,1,2,3,8,9],[⟨.fix 70000,70000,.cells []⟩]⟩)],[]⟩
noncomputable def Bins0_1 (F f1:Nat) (x y vi1:Int) (vl2:List FoundT):Option Ans:=runR Gins0 cins0 (kR Tryz.prog [70000] ⟨[],[⟨.fix 70000,70000,.cells []⟩]⟩ [70000] Tryz.f82.results.toList) F [] [1,0] f1 [(0,.arr 70000),(1,.p (.int .i64 x)),(2,.p (.int .i64 y)),(3,.clo (.func 30) [.p .nil] []),(8,.p (.int .i64 vi1))] [(70000,.larr 64 true 3 (.dat foundC vl2))]
noncomputable def Bins0_2 (F f1 f2:Nat) (x y vi1 vi3:Int) (vl4:List FoundT):Option Ans:=runR Gins0 cins0 (kR Tryz.prog [70000] ⟨[],[⟨.fix 70000,70000,.cells []⟩]⟩ [70000] Tryz.f82.results.toList) F [f1] [1,0,0,1,0,0,1,0] f2 [(0,.arr 70000),(1,.p (.int .i64 x)),(2,.p (.int .i64 y)),(3,.clo (.func 30) [.p .nil] []),(8,.p (.int .i64 vi1)),(9,.p (.int .i64 vi3))] [(70000,.larr 64 true 3 (.dat foundC vl4))]
noncomputable def Bins0_3 (F f1 f2:Nat) (x y vi1 vi3:Int) (vc5:Bool) (vl4:List FoundT):Option Ans:=runB Gins0 cins0 (kR Tryz.prog [70000] ⟨[],[⟨.fix 70000,70000,.cells []⟩]⟩ [70000] Tryz.f82.results.toList) F [f1,f2] [1,0,0,1,0,0,1,0,0,0,1] [(0,.arr 70000),(1,.p (.int .i64 x)),(2,.p (.int .i64 y)),(3,.clo (.func 30) [.p .nil] []),(8,.p (.int .i64 vi1)),(9,.p (.int .i64 vi3)),(34,.p (.bool vc5))] [(70000,.larr 64 true 3 (.dat foundC vl4))]
noncomputable def Bins0_4 (F f1 f2:Nat) (x y vi1 vi3:Int) (vl6:List FoundT):Option Ans:=runB Gins0 cins0 (kR Tryz.prog [70000] ⟨[],[⟨.fix 70000,70000,.cells []⟩]⟩ [70000] Tryz.f82.results.toList) F [f1,f2] [1,0,0,1,0,0,1,0,0,1,1] [(0,.arr 70000),(1,.p (.int .i64 x)),(2,.p (.int .i64 y)),(3,.clo (.func 30) [.p .nil] []),(8,.p (.int .i64 vi1)),(9,.p (.int .i64 vi3))] [(70000,.larr 64 true 3 (.dat foundC vl6))]
noncomputable def Fins0 (F:Nat) (x y:Int) (l:List FoundT):Option Ans:=runFR Gins0 Tryz.f82 ⟨[],[⟨.fix 70000,70000,.cells []⟩]⟩ [70000] F [.arr 70000,.p (.int .i64 x),.p (.int .i64 y),.clo (.func 30) [.p .nil] []] [(70000,.larr 64 true 3 (.dat foundC l))]
theorem Bins0_1_eq (F f1:Nat) (x y vi1:Int) (vl2:List FoundT):Bins0_1 F (f1+1) x y vi1 vl2=cond (decide (vi1 < y)) (Bins0_2 F f1 f1 x y vi1 vi1 vl2) (some (.tup [],[(70000,.larr 64 true 3 (.dat foundC vl2))])):=by kernel_rfl
theorem Bins0_2_eq (F f1 f2:Nat) (x y vi1 vi3:Int) (vl4:List FoundT):Bins0_2 F f1 (f2+1) x y vi1 vi3 vl4=need ((decide (vi3 > x))=true->0<=vi3/\vi3 < (vl4.length:Int)) (need ((decide (vi3 > x))=true->(vi3).toNat < vl4.length) (need ((decide (vi3 > x))=true->i64ok (vi3 - (1:Int))) (need ((decide (vi3 > x))=true->0<=(vi3 - (1:Int))/\(vi3 - (1:Int)) < (vl4.length:Int)) (need ((decide (vi3 > x))=true->(vi3 - (1:Int)).toNat < vl4.length) (Bins0_3 F f1 f2 x y vi1 vi3 ((decide (vi3 > x))&&(decide ((cmpI ((vl4.getD ((vi3).toNat) ((((0:Int),((0:Int),([],((0:Int),([],([],((0:Int),(0:Int)))))))),([],[])),([],[]))).1).1.1 ((vl4.getD ((vi3 - (1:Int)).toNat) ((((0:Int),((0:Int),([],((0:Int),([],([],((0:Int),(0:Int)))))))),([],[])),([],[]))).1).1.1) < (0:Int)))) vl4))))):=
 Eq.trans (show Bins0_2 F f1 (f2+1) x y vi1 vi3 vl4=need ((decide (vi3 > x))=true->(decide (vi3 > x))=true) (need ((decide (vi3 > x))=true->(decide (vi3 > x))=true) (need ((decide (vi3 > x))=true->0<=vi3/\vi3 < (vl4.length:Int)) (need ((decide (vi3 > x))=true->(decide (vi3 > x))=true) (need ((decide (vi3 > x))=true->(vi3).toNat < vl4.length) (need ((decide (vi3 > x))=true->(decide (vi3 > x))=true) (need ((decide (vi3 > x))=true->i64ok (vi3 - (1:Int))) (need ((decide (vi3 > x))=true->(decide (vi3 > x))=true) (need ((decide (vi3 > x))=true->(decide (vi3 > x))=true) (need ((decide (vi3 > x))=true->0<=(vi3 - (1:Int))/\(vi3 - (1:Int)) < (vl4.length:Int)) (need ((decide (vi3 > x))=true->(decide (vi3 > x))=true) (need ((decide (vi3 > x))=true->(vi3 - (1:Int)).toNat < vl4.length) (need ((decide (vi3 > x))=true->(decide (vi3 > x))=true) (need ((decide (vi3 > x))=true->(decide (vi3 > x))=true) (need ((decide (vi3 > x))=true->(decide (vi3 > x))=true) (need ((decide (vi3 > x))=true->(decide (vi3 > x))=true) (need ((decide (vi3 > x))=true->(decide (vi3 > x))=true) (Bins0_3 F f1 f2 x y vi1 vi3 ((decide (vi3 > x))&&(decide ((cmpI ((vl4.getD ((vi3).toNat) ((((0:Int),((0:Int),([],((0:Int),([],([],((0:Int),(0:Int)))))))),([],[])),([],[]))).1).1.1 ((vl4.getD ((vi3 - (1:Int)).toNat) ((((0:Int),((0:Int),([],((0:Int),([],([],((0:Int),(0:Int)))))))),([],[])),([],[]))).1).1.1) < (0:Int)))) vl4))))))))))))))))) by kernel_rfl) (need_strike (show (decide (vi3 > x))=true->(decide (vi3 > x))=true from (fun q0=>q0)) (need_strike (show (decide (vi3 > x))=true->(decide (vi3 > x))=true from (fun q0=>q0)) (need_congr (need_strike (show (decide (vi3 > x))=true->(decide (vi3 > x))=true from (fun q0=>q0)) (need_congr (need_strike (show (decide (vi3 > x))=true->(decide (vi3 > x))=true from (fun q0=>q0)) (need_congr (need_strike (show (decide (vi3 > x))=true->(decide (vi3 > x))=true from (fun q0=>q0)) (need_strike (show (decide (vi3 > x))=true->(decide (vi3 > x))=true from (fun q0=>q0)) (need_congr (need_strike (show (decide (vi3 > x))=true->(decide (vi3 > x))=true from (fun q0=>q0)) (need_congr (need_strike (show (decide (vi3 > x))=true->(decide (vi3 > x))=true from (fun q0=>q0)) (need_strike (show (decide (vi3 > x))=true->(decide (vi3 > x))=true from (fun q0=>q0)) (need_strike (show (decide (vi3 > x))=true->(decide (vi3 > x))=true from (fun q0=>q0)) (need_strike (show (decide (vi3 > x))=true->(decide (vi3 > x))=true from (fun q0=>q0)) (need_strike (show (decide (vi3 > x))=true->(decide (vi3 > x))=true from (fun q0=>q0)) (rfl))))))))))))))))))
theorem Bins0_3_eq (F f1 f2:Nat) (x y vi1 vi3:Int) (vc5:Bool) (vl4:List FoundT):Bins0_3 F f1 f2 x y vi1 vi3 vc5 vl4=cond (vc5) (need (i64ok (vi3 - (1:Int))) (need (i64ok (vi3 - (1:Int))) (need (0<=(vi3 - (1:Int))/\(vi3 - (1:Int)) < (vl4.length:Int)) (need ((vi3 - (1:Int)).toNat < vl4.length) (need (0<=vi3/\vi3 < (vl4.length:Int)) (need ((vi3).toNat < vl4.length) (need (0<=vi3/\vi3 < (vl4.length:Int)) (need ((vi3).toNat < vl4.length) (need (0<=(vi3 - (1:Int))/\(vi3 - (1:Int)) < ((vl4.set ((vi3).toNat) (((vl4.getD ((vi3 - (1:Int)).toNat) ((((0:Int),((0:Int),([],((0:Int),([],([],((0:Int),(0:Int)))))))),([],[])),([],[]))).1),((((vl4.getD ((vi3 - (1:Int)).toNat) ((((0:Int),((0:Int),([],((0:Int),([],([],((0:Int),(0:Int)))))))),([],[])),([],[]))).2).1),(((vl4.getD ((vi3 - (1:Int)).toNat) ((((0:Int),((0:Int),([],((0:Int),([],([],((0:Int),(0:Int)))))))),([],[])),([],[]))).2).2)))).length:Int)) (need ((vi3 - (1:Int)).toNat < (vl4.set ((vi3).toNat) (((vl4.getD ((vi3 - (1:Int)).toNat) ((((0:Int),((0:Int),([],((0:Int),([],([],((0:Int),(0:Int)))))))),([],[])),([],[]))).1),((((vl4.getD ((vi3 - (1:Int)).toNat) ((((0:Int),((0:Int),([],((0:Int),([],([],((0:Int),(0:Int)))))))),([],[])),([],[]))).2).1),(((vl4.getD ((vi3 - (1:Int)).toNat) ((((0:Int),((0:Int),([],((0:Int),([],([],((0:Int),(0:Int)))))))),([],[])),([],[]))).2).2)))).length) (Bins0_4 F f1 f2 x y vi1 vi3 ((vl4.set ((vi3).toNat) (((vl4.getD ((vi3 - (1:Int)).toNat) ((((0:Int),((0:Int),([],((0:Int),([],([],((0:Int),(0:Int)))))))),([],[])),([],[]))).1),((((vl4.getD ((vi3 - (1:Int)).toNat) ((((0:Int),((0:Int),([],((0:Int),([],([],((0:Int),(0:Int)))))))),([],[])),([],[]))).2).1),(((vl4.getD ((vi3 - (1:Int)).toNat) ((((0:Int),((0:Int),([],((0:Int),([],([],((0:Int),(0:Int)))))))),([],[])),([],[]))).2).2)))).set ((vi3 - (1:Int)).toNat) (((vl4.getD ((vi3).toNat) ((((0:Int),((0:Int),([],((0:Int),([],([],((0:Int),(0:Int)))))))),([],[])),([],[]))).1),((((vl4.getD ((vi3).toNat) ((((0:Int),((0:Int),([],((0:Int),([],([],((0:Int),(0:Int)))))))),([],[])),([],[]))).2).1),(((vl4.getD ((vi3).toNat) ((((0:Int),((0:Int),([],((0:Int),([],([],((0:Int),(0:Int)))))))),([],[])),([],[]))).2).2))))))))))))))) (need (i64ok (vi1+(1:Int))) (Bins0_1 F f1 x y (vi1+(1:Int)) vl4)):=by kernel_rfl
theorem Bins0_4_eq (F f1 f2:Nat) (x y vi1 vi3:Int) (vl6:List FoundT):Bins0_4 F f1 f2 x y vi1 vi3 vl6=need (i64ok (vi3 - (1:Int))) (Bins0_2 F f1 f2 x y vi1 (vi3 - (1:Int)) vl6):=by kernel_rfl
theorem Fins0_eq (F:Nat) (x y:Int) (l:List FoundT):Fins0 F x y l=need (i64ok (x+(1:Int))) (Bins0_1 F F x y (x+(1:Int)) l):=by kernel_rfl
theorem fn_ins0 (F:Nat) (x y:Int) (l:List FoundT) (r:AV) (os:List (Nat×AObj)) (h:(∃ γ M w vs,ARels γ M [.arr 70000,.p (.int .i64 x),.p (.int .i64 y),.clo (.func 30) [.p .nil] []] vs/\Objs γ M w (fun i=>lookO i [(70000,.larr 64 true 3 (.dat foundC l))]) (fun b=>b < w.heap.size))->Fins0 F x y l=some (r,os)):FnR Tryz.prog 82 [.arr 70000,.p (.int .i64 x),.p (.int .i64 y),.clo (.func 30) [.p .nil] []] [(70000,.larr 64 true 3 (.dat foundC l))] [70000] r os:=
 FnR_run Gins0 ⟨[],[⟨.fix 70000,70000,.cells []⟩]⟩ [70000] F rfl (EnvOk_mk (l:=[(30,sp_comp0)]) ⟨ok_comp0.any,trivial⟩) (EnvROk_mk (l:=[]) trivial) (Checked.mixed Tryz.checked) (fn:=Tryz.f82) (by kernel_rfl) (by kernel_rfl) rfl h
theorem ins0_eq (a b:FoundT):Fins0 3 0 2 [a,b]=some (.tup [],[(70000,.larr 64 true 3 (.dat foundC (sort2 [a,b])))]):=by
 rw [Fins0_eq]
 refine need_mk (by decide) ?_
 show Bins0_1 3 (2+1) 0 2 1 [a,b]=_
 rw [Bins0_1_eq]
 refine cond_t (by decide) ?_
 show Bins0_2 3 2 (1+1) 0 2 1 1 [a,b]=_
 rw [Bins0_2_eq]
 refine need_mk (fun _=>by simp) (need_mk (fun _=>by simp) (need_mk (fun _=>by decide) (need_mk (fun _=>by simp) (need_mk (fun _=>by simp) ?_))))
 show Bins0_3 3 2 1 0 2 1 1 (decide (cmpI b.1.1.1 a.1.1.1 < 0)) [a,b]=_
 rw [Bins0_3_eq,sort2]
 have hend:∀ x y:FoundT,Bins0_1 3 (1+1) 0 2 2 [x,y]=some (.tup [],[(70000,.larr 64 true 3 (.dat foundC [x,y]))]):=fun x y=>by
  rw [Bins0_1_eq]; exact cond_f (by decide) rfl
 by_cases hc:cmpI b.1.1.1 a.1.1.1 < 0
 .rw [if_pos hc]
  refine cond_t (by simpa using hc) (need_mk (by decide) (need_mk (by decide) (need_mk (by simp) (need_mk (by simp) (need_mk (by simp) (need_mk (by simp) (need_mk (by simp) (need_mk (by simp) (need_mk (by simp) (need_mk (by simp) ?_))))))))))
  show Bins0_4 3 2 1 0 2 1 1 [b,a]=_
  rw [Bins0_4_eq]
  refine need_mk (by decide) ?_
  show Bins0_2 3 2 (0+1) 0 2 1 0 [b,a]=_
  rw [Bins0_2_eq]
  refine need_mk (fun h=>absurd h (by decide)) (need_mk (fun h=>absurd h (by decide)) (need_mk (fun h=>absurd h (by decide)) (need_mk (fun h=>absurd h (by decide)) (need_mk (fun h=>absurd h (by decide)) ?_))))
  show Bins0_3 3 2 0 0 2 1 0 false [b,a]=_
  rw [Bins0_3_eq]
  exact cond_f rfl (need_mk (by decide) (hend b a))
 .rw [if_neg hc]
  exact cond_f (by simpa using hc) (need_mk (by decide) (hend a b))
theorem two_of {α:Type} {l:List α} (h:l.length=2):∃ a b,l=[a,b]:=by
 match l,h with
 | [a,b],_=>exact ⟨a,b,rfl⟩
def sp_ins0:RSpec:=⟨[false,true,true,true],fun args ib=>match args,ib with
 | [.arr 70000,.p (.int .i64 x),.p (.int .i64 y),.clo (.func 30) [.p .nil] []],[(70000,.larr 64 true 3 R)]=>match pList foundC (.list 3 R) with
  | some l=>some (([70000],.tup []),([(70000,.larr 64 true 3 (.dat foundC (sort2 l)))],some (x=0/\y=2/\l.length=2)))
  | none=>none
 | _,_=>none⟩
theorem ok_ins0:SpecROk Tryz.prog 82 sp_ins0:=by
 intro args ib kept r outs ok he hok
 simp only [sp_ins0] at he
 split at he
 .rename_i x y R
  split at he
  .rename_i l hl
   cases he
   obtain ⟨rfl,_⟩:=pList_row hl
   obtain ⟨rfl,rfl,h2⟩:x=0/\y=2/\l.length=2:=hok
   obtain ⟨a,b,rfl⟩:=two_of h2
   exact ⟨by kernel_rfl,fn_ins0 3 0 2 [a,b] _ _ fun _=>ins0_eq a b⟩
  .cases he
 .cases he
def sp_sym0:RSpec:=⟨[false,true,true,true,true],fun args ib=>match args,ib with
 | [.arr 70000,.p (.int .i64 _),.p (.int .i64 _),.p (.int .i64 _),.clo (.func 30) [.p .nil] []],[(70000,.larr 64 true 3 R)]=>match pList foundC (.list 3 R) with
  | some l=>some (([70000],.tup []),([(70000,.larr 64 true 3 (.dat foundC l))],some False))
  | none=>none
 | _,_=>none⟩
theorem ok_sym0:SpecROk Tryz.prog 83 sp_sym0:=by
 intro args ib kept r outs ok he hok
 simp only [sp_sym0] at he
 split at he
 .split at he
  .cases he; exact absurd hok (fun h=>h)
  .cases he
 .cases he
noncomputable def csta0:Code:=bodyOf Tryz.f50
noncomputable def Gsta0:Cfg:=⟨Tryz.prog,mkEnv [],mkEnvR [(82,sp_ins0),(83,sp_sym0)],63,[70000],[([0,0,1,1],⟨[0,1,2,6,7,8],[⟨.fix 70000,70000,.cells []⟩]⟩),([0,1,1,1,1],⟨[0,1,2,6],[⟨.fix 70000,70000,.cells []⟩]⟩),([0,0,1,0,1,0,0,1,1,1,1],⟨[0,1,2,6,7,8],[⟨.fix 70000,70000,.cells []⟩]⟩),([1,1,1,0,1,0,0,1,1,1,1],⟨[0,1,2,6],[⟨.fix 70000,70000,.cells []⟩]⟩)],[([0,0,1,0,0,0,1,1],[4]),([0,1,1,1],[4]),([0,0,1,0,0,0,1,0,1,0,0,1,1,1,1],[7]),([0,1,1,0,1,1,0,1,0,0,1,1,1,1],[5])]⟩
noncomputable def Bsta0_1 (F f1:Nat) (n vi1 vi2:Int) (vl3:List FoundT):Option Ans:=runR Gsta0 csta0 (kR Tryz.prog [70000] ⟨[],[⟨.fix 70000,70000,.cells []⟩]⟩ [70000] Tryz.f50.results.toList) F [] [1,1,0,0] f1 [(0,.arr 70000),(1,.p (.int .i64 n)),(2,.clo (.func 30) [.p .nil] []),(6,.p (.int .i64 (20:Int))),(7,.p (.int .i64 vi1)),(8,.p (.int .i64 vi2))] [(70000,.larr 64 true 3 (.dat foundC vl3))]
noncomputable def Bsta0_2 (F f2:Nat) (n vi4:Int) (vl5:List FoundT):Option Ans:=runR Gsta0 csta0 (kR Tryz.prog [70000] ⟨[],[⟨.fix 70000,70000,.cells []⟩]⟩ [70000] Tryz.f50.results.toList) F [] [1,1,1,1,0] f2 [(0,.arr 70000),(1,.p (.int .i64 n)),(2,.clo (.func 30) [.p .nil] []),(6,.p (.int .i64 vi4))] [(70000,.larr 64 true 3 (.dat foundC vl5))]
noncomputable def Bsta0_3 (F f2 f3:Nat) (n vi4 vi6 vi7:Int) (vl8:List FoundT):Option Ans:=runR Gsta0 csta0 (kR Tryz.prog [70000] ⟨[],[⟨.fix 70000,70000,.cells []⟩]⟩ [70000] Tryz.f50.results.toList) F [f2] [1,1,1,1,0,0,1,0,1,0,0] f3 [(0,.arr 70000),(1,.p (.int .i64 n)),(2,.clo (.func 30) [.p .nil] []),(6,.p (.int .i64 vi4)),(7,.p (.int .i64 vi6)),(8,.p (.int .i64 vi7))] [(70000,.larr 64 true 3 (.dat foundC vl8))]
noncomputable def Fsta0 (F:Nat) (n:Int) (l:List FoundT):Option Ans:=runFR Gsta0 Tryz.f50 ⟨[],[⟨.fix 70000,70000,.cells []⟩]⟩ [70000] F [.arr 70000,.p (.int .i64 n),.clo (.func 30) [.p .nil] []] [(70000,.larr 64 true 3 (.dat foundC l))]
theorem Bsta0_1_eq (F f1:Nat) (n vi1 vi2:Int) (vl3:List FoundT):Bsta0_1 F (f1+1) n vi1 vi2 vl3=cond (decide (vi2<=n)) (need (vi1=0/\vi2=2/\vl3.length=2) (need (i64ok (vi2+(20:Int))) (Bsta0_1 F f1 n vi2 (vi2+(20:Int)) (sort2 vl3)))) (need (vi1=0/\n=2/\vl3.length=2) (Bsta0_2 F F n (20:Int) (sort2 vl3))):=by kernel_rfl
theorem Bsta0_2_eq (F f2:Nat) (n vi4:Int) (vl5:List FoundT):Bsta0_2 F (f2+1) n vi4 vl5=cond (decide (vi4 < n)) (need (i64ok ((2:Int) * vi4)) (Bsta0_3 F f2 f2 n vi4 (0:Int) ((2:Int) * vi4) vl5)) (some (.tup [],[(70000,.larr 64 true 3 (.dat foundC vl5))])):=by kernel_rfl
theorem Fsta0_eq (F:Nat) (n:Int) (l:List FoundT):Fsta0 F n l=Bsta0_1 F F n (0:Int) (20:Int) l:=by kernel_rfl
theorem fn_sta0 (F:Nat) (n:Int) (l:List FoundT) (r:AV) (os:List (Nat×AObj)) (h:(∃ γ M w vs,ARels γ M [.arr 70000,.p (.int .i64 n),.clo (.func 30) [.p .nil] []] vs/\Objs γ M w (fun i=>lookO i [(70000,.larr 64 true 3 (.dat foundC l))]) (fun b=>b < w.heap.size))->Fsta0 F n l=some (r,os)):FnR Tryz.prog 50 [.arr 70000,.p (.int .i64 n),.clo (.func 30) [.p .nil] []] [(70000,.larr 64 true 3 (.dat foundC l))] [70000] r os:=
 FnR_run Gsta0 ⟨[],[⟨.fix 70000,70000,.cells []⟩]⟩ [70000] F rfl (EnvOk_mk (l:=[]) trivial) (EnvROk_mk (l:=[(82,sp_ins0),(83,sp_sym0)]) ⟨ok_ins0,ok_sym0,trivial⟩) (Checked.mixed Tryz.checked) (fn:=Tryz.f50) (by kernel_rfl) (by kernel_rfl) rfl h
theorem sta0_eq (l:List FoundT) (h:l.length=2):Fsta0 1 2 l=some (.tup [],[(70000,.larr 64 true 3 (.dat foundC (sort2 l)))]):=by
 rw [Fsta0_eq]
 show Bsta0_1 1 (0+1) 2 0 20 l=_
 rw [Bsta0_1_eq]
 refine cond_f (by decide) (need_mk ⟨rfl,rfl,h⟩ ?_)
 show Bsta0_2 1 (0+1) 2 20 (sort2 l)=_
 rw [Bsta0_2_eq]
 exact cond_f (by decide) rfl
def sp_sta0:RSpec:=⟨[false,true,true],fun args ib=>match args,ib with
 | [.arr 70000,.p (.int .i64 n),.clo (.func 30) [.p .nil] []],[(70000,.larr 64 true 3 R)]=>match pList foundC (.list 3 R) with
  | some l=>some (([70000],.tup []),([(70000,.larr 64 true 3 (.dat foundC (sort2 l)))],some (n=2/\l.length=2)))
  | none=>none
 | _,_=>none⟩
theorem ok_sta0:SpecROk Tryz.prog 50 sp_sta0:=by
 intro args ib kept r outs ok he hok
 simp only [sp_sta0] at he
 split at he
 .rename_i n R
  split at he
  .rename_i l hl
   cases he
   obtain ⟨rfl,_⟩:=pList_row hl
   obtain ⟨rfl,h2⟩:n=2/\l.length=2:=hok
   exact ⟨by kernel_rfl,fn_sta0 1 2 l _ _ fun _=>sta0_eq l h2⟩
  .cases he
 .cases he
noncomputable def Gsst0:Cfg:=⟨Tryz.prog,mkEnv [],mkEnvR [(50,sp_sta0)],9,[70000],[],[([],[4])]⟩
noncomputable def Fsst0 (F:Nat) (l:List FoundT):Option Ans:=runFR Gsst0 Tryz.f29 ⟨[],[⟨.fix 70000,70000,.cells []⟩]⟩ [70000] F [.arr 70000,.clo (.func 30) [.p .nil] []] [(70000,.larr 64 true 3 (.dat foundC l))]
theorem Fsst0_eq (F:Nat) (l:List FoundT):Fsst0 F l=need ((l.length:Int)=2/\l.length=2) (some (.tup [],[(70000,.larr 64 true 3 (.dat foundC (sort2 l)))])):=by kernel_rfl
theorem fn_sst0 (F:Nat) (l:List FoundT) (r:AV) (os:List (Nat×AObj)) (h:(∃ γ M w vs,ARels γ M [.arr 70000,.clo (.func 30) [.p .nil] []] vs/\Objs γ M w (fun i=>lookO i [(70000,.larr 64 true 3 (.dat foundC l))]) (fun b=>b < w.heap.size))->Fsst0 F l=some (r,os)):FnR Tryz.prog 29 [.arr 70000,.clo (.func 30) [.p .nil] []] [(70000,.larr 64 true 3 (.dat foundC l))] [70000] r os:=
 FnR_run Gsst0 ⟨[],[⟨.fix 70000,70000,.cells []⟩]⟩ [70000] F rfl (EnvOk_mk (l:=[]) trivial) (EnvROk_mk (l:=[(50,sp_sta0)]) ⟨ok_sta0,trivial⟩) (Checked.mixed Tryz.checked) (fn:=Tryz.f29) (by kernel_rfl) (by kernel_rfl) rfl h
def sp_sst0:RSpec:=⟨[false,true],fun args ib=>match args,ib with
 | [.arr 70000,.clo (.func 30) [.p .nil] []],[(70000,.larr 64 true 3 R)]=>match pList foundC (.list 3 R) with
  | some l=>some (([70000],.tup []),([(70000,.larr 64 true 3 (.dat foundC (sort2 l)))],some (l.length=2)))
  | none=>none
 | _,_=>none⟩
theorem ok_sst0:SpecROk Tryz.prog 29 sp_sst0:=by
 intro args ib kept r outs ok he hok
 simp only [sp_sst0] at he
 split at he
 .rename_i R
  split at he
  .rename_i l hl
   cases he
   obtain ⟨rfl,_⟩:=pList_row hl
   have h2:l.length=2:=hok
   exact ⟨by kernel_rfl,fn_sst0 0 l _ _ fun _=>by rw [Fsst0_eq]; exact need_mk ⟨by omega,h2⟩ rfl⟩
  .cases he
 .cases he
def kidsR (i:Int):List Int->List Int->Option (List Int)
 | [],acc=>some acc
 | k::r,acc=>if k < 0\/k>=i then none else kidsR i r (acc.set k.toNat (acc.getD k.toNat 0+1))
def goR:Nat->List TermT->List Int->Option (List Int)
 | _,[],acc=>some acc
 | i,t::r,acc=>if t.1 < 1\/t.1 > 16 then none else match kidsR (i:Int) t.2.2.2.2.2 acc with
  | none=>none
  | some acc'=>goR (i+1) r acc'
def rightP (f:List TermT):Bool:=if f.length > 40 then false else match goR 0 f (List.replicate f.length 0) with
 | none=>false
 | some acc=>(acc.take (f.length - 1)).all fun x=>x==1
abbrev rightok (f:List TermT):Prop:=f.length<=1000000/\∀ t ∈ f,t.2.2.2.2.2.length<=1000000
noncomputable def cright:Code:=bodyOf Tryz.f21
noncomputable def Gright:Cfg:=⟨Tryz.prog,mkEnv [],mkEnvR [],64,[],[([0,1,0,1,1,1],⟨[0,3,15,16,17],[⟨.slot 3,3,.cells []⟩]⟩),([1,0,1,0,0,1,1,0,0,1,0,1,1,1],⟨[0,3,4,5,15,16,17,29],[⟨.slot 3,3,.cells []⟩,⟨.slot 5,5,.cells []⟩]⟩),([0,1,1,1,0,0,1,1,0,0,1,0,1,1,1],⟨[0,3,4,15,16,17,31,32,33],[⟨.slot 3,3,.cells []⟩]⟩),([1,0,1,0,0,1,1,0,0,1,1,1,0,0,1,1,0,0,1,0,1,1,1],⟨[0,3,4,7,15,16,17,31,32,33,43],[⟨.slot 3,3,.cells []⟩]⟩),([0,1,0,1,1,1,1],⟨[0,3,8],[⟨.slot 3,3,.cells []⟩]⟩)],[]⟩
noncomputable def Bright_1 (F f1:Nat) (f:List TermT) (vi1 vi2:Int) (vl3:List Int):Option Ans:=runR Gright cright (kP Tryz.prog Tryz.f21.results.toList) F [] [1,1,1,0,1,0] f1 [(0,.p (.list 6 (.dat termC f))),(3,.arr 3),(15,.p (.list 6 (.dat termC f))),(16,.p (.int .i64 vi1)),(17,.p (.int .i64 vi2))] [(3,.larr 3 true 1 (.dat (.int .i64) vl3))]
noncomputable def Bright_2 (F f1:Nat) (f:List TermT) (vi2 vi1:Int) (vc4:Bool) (vl3:List Int) (vi5 vi6:Int) (vs7 vs8:List UInt8) (vl9:List (Int×Int)) (vl10:List Int):Option Ans:=runB Gright cright (kP Tryz.prog Tryz.f21.results.toList) F [f1] [1,1,1,0,1,0,0,1,1,0,0,1,0,1] [(0,.p (.list 6 (.dat termC f))),(3,.arr 3),(4,.p (.int .i64 vi2)),(5,.ref 5 0),(15,.p (.list 6 (.dat termC f))),(16,.p (.int .i64 vi1)),(17,.p (.int .i64 vi2)),(29,.p (.bool vc4))] [(3,.larr 3 true 1 (.dat (.int .i64) vl3)),(5,.cells [.p (.int .i64 vi5),.p (.int .i64 vi6),.p (.str vs7),.p (.str vs8),.p (.list 2 (.dat (.pair (.int .i64) (.int .i64)) vl9)),.p (.list 1 (.dat (.int .i64) vl10))])]
noncomputable def Bright_3 (F f1 f2:Nat) (f:List TermT) (vi2 vi1:Int) (vl10:List Int) (vi11 vi12:Int) (vl13:List Int):Option Ans:=runR Gright cright (kP Tryz.prog Tryz.f21.results.toList) F [f1] [1,1,1,0,1,0,0,1,1,0,0,1,1,1,0] f2 [(0,.p (.list 6 (.dat termC f))),(3,.arr 3),(4,.p (.int .i64 vi2)),(15,.p (.list 6 (.dat termC f))),(16,.p (.int .i64 vi1)),(17,.p (.int .i64 vi2)),(31,.p (.list 1 (.dat (.int .i64) vl10))),(32,.p (.int .i64 vi11)),(33,.p (.int .i64 vi12))] [(3,.larr 3 true 1 (.dat (.int .i64) vl13))]
noncomputable def Bright_4 (F f1 f2:Nat) (f:List TermT) (vi2 vi14 vi1:Int) (vl10:List Int) (vi11 vi12:Int) (vc15:Bool) (vl13:List Int):Option Ans:=runB Gright cright (kP Tryz.prog Tryz.f21.results.toList) F [f1,f2] [1,1,1,0,1,0,0,1,1,0,0,1,1,1,0,0,1,1,0,0,1,0,1] [(0,.p (.list 6 (.dat termC f))),(3,.arr 3),(4,.p (.int .i64 vi2)),(7,.p (.int .i64 vi14)),(15,.p (.list 6 (.dat termC f))),(16,.p (.int .i64 vi1)),(17,.p (.int .i64 vi2)),(31,.p (.list 1 (.dat (.int .i64) vl10))),(32,.p (.int .i64 vi11)),(33,.p (.int .i64 vi12)),(43,.p (.bool vc15))] [(3,.larr 3 true 1 (.dat (.int .i64) vl13))]
noncomputable def Bright_5 (F f3:Nat) (f:List TermT) (vi16:Int) (vl3:List Int):Option Ans:=runR Gright cright (kP Tryz.prog Tryz.f21.results.toList) F [] [1,1,1,1,0,1,0] f3 [(0,.p (.list 6 (.dat termC f))),(3,.arr 3),(8,.p (.int .i64 vi16))] [(3,.larr 3 true 1 (.dat (.int .i64) vl3))]
noncomputable def Fright (F:Nat) (f:List TermT):Option Ans:=runF Gright Tryz.f21 F [.p (.list 6 (.dat termC f))]
theorem Bright_1_eq (F f1:Nat) (f:List TermT) (vi1 vi2:Int) (vl3:List Int):Bright_1 F (f1+1) f vi1 vi2 vl3=cond (decide (vi2 < vi1)) (need (0<=vi2/\vi2 < (f.length:Int)) ((((Bright_2 F f1 f vi2 vi1 ((decide (((f.getD (vi2).toNat ((0:Int),((0:Int),([],([],([],[])))))).1) < (1:Int)))||(decide (((f.getD (vi2).toNat ((0:Int),((0:Int),([],([],([],[])))))).1) > (16:Int)))) vl3 ((f.getD (vi2).toNat ((0:Int),((0:Int),([],([],([],[])))))).1) (((f.getD (vi2).toNat ((0:Int),((0:Int),([],([],([],[])))))).2).1) ((((f.getD (vi2).toNat ((0:Int),((0:Int),([],([],([],[])))))).2).2).1) (((((f.getD (vi2).toNat ((0:Int),((0:Int),([],([],([],[])))))).2).2).2).1) ((((((f.getD (vi2).toNat ((0:Int),((0:Int),([],([],([],[])))))).2).2).2).2).1) ((((((f.getD (vi2).toNat ((0:Int),((0:Int),([],([],([],[])))))).2).2).2).2).2)))))) (Bright_5 F F f (0:Int) vl3):=by
 have h:Bright_1 F (f1+1) f vi1 vi2 vl3=cond (decide (vi2 < vi1)) (need (0<=vi2/\vi2 < (f.length:Int)) (need ((!(decide (((f.getD (vi2).toNat ((0:Int),((0:Int),([],([],([],[])))))).1) < (1:Int))))=true->(!(decide (((f.getD (vi2).toNat ((0:Int),((0:Int),([],([],([],[])))))).1) < (1:Int))))=true) (need ((!(decide (((f.getD (vi2).toNat ((0:Int),((0:Int),([],([],([],[])))))).1) < (1:Int))))=true->(!(decide (((f.getD (vi2).toNat ((0:Int),((0:Int),([],([],([],[])))))).1) < (1:Int))))=true) (need ((decide (((f.getD (vi2).toNat ((0:Int),((0:Int),([],([],([],[])))))).1) < (1:Int)))=false->(!(decide (((f.getD (vi2).toNat ((0:Int),((0:Int),([],([],([],[])))))).1) < (1:Int))))=true) (Bright_2 F f1 f vi2 vi1 ((decide (((f.getD (vi2).toNat ((0:Int),((0:Int),([],([],([],[])))))).1) < (1:Int)))||(decide (((f.getD (vi2).toNat ((0:Int),((0:Int),([],([],([],[])))))).1) > (16:Int)))) vl3 ((f.getD (vi2).toNat ((0:Int),((0:Int),([],([],([],[])))))).1) (((f.getD (vi2).toNat ((0:Int),((0:Int),([],([],([],[])))))).2).1) ((((f.getD (vi2).toNat ((0:Int),((0:Int),([],([],([],[])))))).2).2).1) (((((f.getD (vi2).toNat ((0:Int),((0:Int),([],([],([],[])))))).2).2).2).1) ((((((f.getD (vi2).toNat ((0:Int),((0:Int),([],([],([],[])))))).2).2).2).2).1) ((((((f.getD (vi2).toNat ((0:Int),((0:Int),([],([],([],[])))))).2).2).2).2).2)))))) (Bright_5 F F f (0:Int) vl3):=by kernel_rfl
 rw [h,need_pos (show (decide (((f.getD (vi2).toNat ((0:Int),((0:Int),([],([],([],[])))))).1) < (1:Int)))=false->(!(decide (((f.getD (vi2).toNat ((0:Int),((0:Int),([],([],([],[])))))).1) < (1:Int))))=true from (fun q0=>(not_mk q0))),need_pos (show (!(decide (((f.getD (vi2).toNat ((0:Int),((0:Int),([],([],([],[])))))).1) < (1:Int))))=true->(!(decide (((f.getD (vi2).toNat ((0:Int),((0:Int),([],([],([],[])))))).1) < (1:Int))))=true from (fun q0=>q0)),need_pos (show (!(decide (((f.getD (vi2).toNat ((0:Int),((0:Int),([],([],([],[])))))).1) < (1:Int))))=true->(!(decide (((f.getD (vi2).toNat ((0:Int),((0:Int),([],([],([],[])))))).1) < (1:Int))))=true from (fun q0=>q0))]
theorem Bright_2_eq (F f1:Nat) (f:List TermT) (vi2 vi1:Int) (vc4:Bool) (vl3:List Int) (vi5 vi6:Int) (vs7 vs8:List UInt8) (vl9:List (Int×Int)) (vl10:List Int):Bright_2 F f1 f vi2 vi1 vc4 vl3 vi5 vi6 vs7 vs8 vl9 vl10=cond (vc4) (some (.p (.bool false),[])) (Bright_3 F f1 f1 f vi2 vi1 vl10 (vl10.length:Int) (0:Int) vl3):=by kernel_rfl
theorem Bright_3_eq (F f1 f2:Nat) (f:List TermT) (vi2 vi1:Int) (vl10:List Int) (vi11 vi12:Int) (vl13:List Int):Bright_3 F f1 (f2+1) f vi2 vi1 vl10 vi11 vi12 vl13=cond (decide (vi12 < vi11)) (need (0<=vi12/\vi12 < (vl10.length:Int)) ((((Bright_4 F f1 f2 f vi2 (vl10.getD (vi12).toNat (0:Int)) vi1 vl10 vi11 vi12 ((decide ((vl10.getD (vi12).toNat (0:Int)) < (0:Int)))||(decide ((vl10.getD (vi12).toNat (0:Int))>=vi2))) vl13))))) (need (i64ok (vi2+(1:Int))) (Bright_1 F f1 f vi1 (vi2+(1:Int)) vl13)):=by
 have h:Bright_3 F f1 (f2+1) f vi2 vi1 vl10 vi11 vi12 vl13=cond (decide (vi12 < vi11)) (need (0<=vi12/\vi12 < (vl10.length:Int)) (need ((!(decide ((vl10.getD (vi12).toNat (0:Int)) < (0:Int))))=true->(!(decide ((vl10.getD (vi12).toNat (0:Int)) < (0:Int))))=true) (need ((!(decide ((vl10.getD (vi12).toNat (0:Int)) < (0:Int))))=true->(!(decide ((vl10.getD (vi12).toNat (0:Int)) < (0:Int))))=true) (need ((decide ((vl10.getD (vi12).toNat (0:Int)) < (0:Int)))=false->(!(decide ((vl10.getD (vi12).toNat (0:Int)) < (0:Int))))=true) (Bright_4 F f1 f2 f vi2 (vl10.getD (vi12).toNat (0:Int)) vi1 vl10 vi11 vi12 ((decide ((vl10.getD (vi12).toNat (0:Int)) < (0:Int)))||(decide ((vl10.getD (vi12).toNat (0:Int))>=vi2))) vl13))))) (need (i64ok (vi2+(1:Int))) (Bright_1 F f1 f vi1 (vi2+(1:Int)) vl13)):=by kernel_rfl
 rw [h,need_pos (show (decide ((vl10.getD (vi12).toNat (0:Int)) < (0:Int)))=false->(!(decide ((vl10.getD (vi12).toNat (0:Int)) < (0:Int))))=true from (fun q0=>(not_mk q0))),need_pos (show (!(decide ((vl10.getD (vi12).toNat (0:Int)) < (0:Int))))=true->(!(decide ((vl10.getD (vi12).toNat (0:Int)) < (0:Int))))=true from (fun q0=>q0)),need_pos (show (!(decide ((vl10.getD (vi12).toNat (0:Int)) < (0:Int))))=true->(!(decide ((vl10.getD (vi12).toNat (0:Int)) < (0:Int))))=true from (fun q0=>q0))]
theorem Bright_4_eq (F f1 f2:Nat) (f:List TermT) (vi2 vi14 vi1:Int) (vl10:List Int) (vi11 vi12:Int) (vc15:Bool) (vl13:List Int):Bright_4 F f1 f2 f vi2 vi14 vi1 vl10 vi11 vi12 vc15 vl13=cond (vc15) (some (.p (.bool false),[])) (need (0<=vi14/\vi14 < (vl13.length:Int)) (need ((vi14).toNat < vl13.length) (need (i64ok ((vl13.getD ((vi14).toNat) (0:Int))+(1:Int))) (need (0<=vi14/\vi14 < (vl13.length:Int)) (need ((vi14).toNat < vl13.length) (need (i64ok (vi12+(1:Int))) (Bright_3 F f1 f2 f vi2 vi1 vl10 vi11 (vi12+(1:Int)) (vl13.set ((vi14).toNat) ((vl13.getD ((vi14).toNat) (0:Int))+(1:Int)))))))))):=by kernel_rfl
theorem Bright_5_eq (F f3:Nat) (f:List TermT) (vi16:Int) (vl3:List Int):Bright_5 F (f3+1) f vi16 vl3=need (i64ok (vi16+(1:Int))) (cond (decide ((vi16+(1:Int)) < (f.length:Int))) (need (0<=vi16/\vi16 < (vl3.length:Int)) (need ((vi16).toNat < vl3.length) (cond ((vl3.getD ((vi16).toNat) (0:Int)) != (1:Int)) (some (.p (.bool false),[])) (need (i64ok (vi16+(1:Int))) (Bright_5 F f3 f (vi16+(1:Int)) vl3))))) (some (.p (.bool true),[]))):=by kernel_rfl
theorem Fright_eq (F:Nat) (f:List TermT):Fright F f=cond (decide ((f.length:Int) > (40:Int))) (some (.p (.bool false),[])) (need (0<=(f.length:Int)/\(f.length:Int)<=(f.length:Int)/\(8:Int) * (f.length:Int)<=281474976710656/\(f.length:Int)<=9223372036854775807) (Bright_1 F F f (f.length:Int) (0:Int) (List.replicate ((f.length:Int)).toNat (0:Int)))):=by kernel_rfl
theorem fn_right (F:Nat) (f:List TermT) (r:AV) (h:(∃ M vs,ARels γ0 M [.p (.list 6 (.dat termC f))] vs)->Fright F f=some (r,[])):FnP Tryz.prog 21 [.p (.list 6 (.dat termC f))] r:=
 FnP_run Gright F rfl (EnvOk_mk (l:=[]) trivial) (EnvROk_mk (l:=[]) trivial) (Checked.mixed Tryz.checked) (fn:=Tryz.f21) (by kernel_rfl) (by kernel_rfl) rfl h
theorem kidsR_len (i:Int):∀ (r acc out:List Int),kidsR i r acc=some out->out.length=acc.length
 | [],acc,out,h=>by cases h; rfl
 | k::r,acc,out,h=>by
  rw [kidsR] at h
  split at h
  .cases h
  .rw [kidsR_len i r _ out h]; simp
theorem kidsR_le (i M:Int):∀ (r acc out:List Int),kidsR i r acc=some out->(∀ x ∈ acc,0<=x/\x<=M)->0<=M->∀ x ∈ out,0<=x/\x<=M+r.length
 | [],acc,out,h,ha,hM=>by cases h; intro x hx; have:=ha x hx; simp; exact this
 | k::r,acc,out,h,ha,hM=>by
  rw [kidsR] at h
  split at h
  .cases h
  .intro x hx
   have h1:∀ y ∈ acc.set k.toNat (acc.getD k.toNat 0+1),0<=y/\y<=M+1:=by
    intro y hy
    rcases List.mem_or_eq_of_mem_set hy with hy | hy
    .have:=ha y hy; omega
    .rw [hy]
     by_cases hl:k.toNat < acc.length
     .have:=ha _ (getD_mem hl 0); omega
     .rw [List.getD_eq_getElem?_getD,List.getElem?_eq_none (by omega)]; simp; omega
   have:=kidsR_le i (M+1) r _ out h h1 (by omega) x hx
   rw [List.length_cons]; omega
theorem Bright_3_spec (F f1:Nat) (f:List TermT) (i n:Nat) (hi:i<=1000000) (kids:List Int) (hk:kids.length<=1000000):∀ (r:List Int) (f2 j:Nat) (acc:List Int),kids.drop j=r->r.length < f2->j<=kids.length->i<=acc.length->(∀ x ∈ acc,0<=x/\x<=1000000 * 1000000+j)->
 Bright_3 F f1 f2 f (i:Int) (n:Int) kids (kids.length:Int) (j:Int) acc=match kidsR (i:Int) r acc with
  | none=>some (.p (.bool false),[])
  | some acc'=>Bright_1 F f1 f (n:Int) ((i+1:Nat):Int) acc':=by
 intro r
 induction r with
 | nil=>
  intro f2 j acc hd hf hj ha hb
  have:j=kids.length:=by have:=congrArg List.length hd; simp at this; omega
  cases f2 with
  | zero=>omega
  | succ f2=>
   rw [Bright_3_eq]
   exact cond_f (by simp; omega) (need_mk (by unfold i64ok; omega) rfl)
 | cons k r ih=>
  intro f2 j acc hd hf hj ha hb
  obtain ⟨h1,h2,h3⟩:=dropG hd (0:Int)
  cases f2 with
  | zero=>omega
  | succ f2=>
   rw [Bright_3_eq,Int.toNat_natCast,h1]
   refine cond_t (by simp; omega) (need_mk ⟨by omega,by omega⟩ ?_)
   rw [Bright_4_eq,kidsR]
   by_cases hc:k < 0\/k>=(i:Int)
   .rw [if_pos hc]
    exact cond_t (by rcases hc with h | h <;> simp [h]) rfl
   .rw [if_neg hc]
    have hk0:0<=k:=by
     rcases Int.lt_or_le k 0 with h | h
     .exact absurd (.inl h) hc
     .exact h
    have hki:k < (i:Int):=by
     rcases Int.lt_or_le k (i:Int) with h | h
     .exact h
     .exact absurd (.inr h) hc
    have hg:=hb _ (getD_mem (show k.toNat < acc.length by omega) 0)
    refine cond_f (by rw [Bool.or_eq_false_iff,decide_eq_false_iff_not,decide_eq_false_iff_not]; omega) (need_mk ⟨hk0,by omega⟩ (need_mk (by omega) (need_mk (by unfold i64ok; omega) (need_mk ⟨hk0,by omega⟩ (need_mk (by omega) (need_mk (by unfold i64ok; omega) ?_))))))
    rw [show (j:Int)+1=((j+1:Nat):Int) by omega]
    refine ih f2 (j+1) _ h2 (by simp at hf; omega) (by omega) (by simpa using ha) fun y hy=>?_
    rcases List.mem_or_eq_of_mem_set hy with hy | hy
    .have:=hb y hy; omega
    .rw [hy]; omega
theorem Bright_1_spec (F:Nat) (f:List TermT) (hf40:f.length<=40) (hks:∀ t ∈ f,t.2.2.2.2.2.length<=1000000):∀ (r:List TermT) (f1 i:Nat) (acc:List Int),f.drop i=r->r.length+1000001 < f1->i<=f.length->acc.length=f.length->(∀ x ∈ acc,0<=x/\x<=1000000 * i)->
 Bright_1 F f1 f (f.length:Int) (i:Int) acc=match goR i r acc with
  | none=>some (.p (.bool false),[])
  | some acc'=>Bright_5 F F f (0:Int) acc':=by
 intro r
 induction r with
 | nil=>
  intro f1 i acc hd hf hi ha hb
  have:i=f.length:=by have:=congrArg List.length hd; simp at this; omega
  cases f1 with
  | zero=>omega
  | succ f1=>
   rw [Bright_1_eq]
   exact cond_f (by simp; omega) rfl
 | cons t r ih=>
  intro f1 i acc hd hf hi ha hb
  obtain ⟨h1,h2,h3⟩:=dropG hd ((0:Int),((0:Int),(([]:List UInt8),(([]:List UInt8),(([]:List (Int×Int)),([]:List Int))))))
  have ht:t ∈ f:=by rw [<-h1]; exact getD_mem h3 _
  simp only [List.length_cons] at hf
  cases f1 with
  | zero=>omega
  | succ f1=>
   rw [Bright_1_eq,Int.toNat_natCast,h1]
   refine cond_t (by simp; omega) (need_mk ⟨by omega,by omega⟩ ?_)
   rw [Bright_2_eq,goR]
   by_cases hc:t.1 < 1\/t.1 > 16
   .rw [if_pos hc]
    exact cond_t (by rcases hc with h | h <;> simp [h]) rfl
   .rw [if_neg hc]
    refine cond_f (by rw [Bool.or_eq_false_iff,decide_eq_false_iff_not,decide_eq_false_iff_not]; omega) ?_
    have hks':=hks t ht
    rw [show (0:Int)=((0:Nat):Int) from rfl,Bright_3_spec F f1 f i f.length (by omega) t.2.2.2.2.2 hks' t.2.2.2.2.2 f1 0 acc rfl (by omega) (by omega) (by omega) (fun x hx=>by have:=hb x hx; omega)]
    cases hkr:kidsR (i:Int) t.2.2.2.2.2 acc with
    | none=>rfl
    | some acc'=>
     dsimp only
     refine ih f1 (i+1) acc' h2 (by omega) (by omega) (by rw [kidsR_len _ _ _ _ hkr]; exact ha) fun x hx=>?_
     have:=kidsR_le (i:Int) (1000000 * i) _ _ _ hkr hb (by omega) x hx
     omega
theorem Bright_5_spec (F:Nat) (f:List TermT) (hf40:f.length<=40) (acc:List Int) (ha:acc.length=f.length):∀ (m f3 i:Nat),i+m=f.length - 1->m < f3->
 Bright_5 F f3 f (i:Int) acc=some (.p (.bool (((acc.take (f.length - 1)).drop i).all fun x=>x==1)),[]):=by
 intro m
 induction m with
 | zero=>
  intro f3 i hi hf
  cases f3 with
  | zero=>omega
  | succ f3=>
   rw [Bright_5_eq]
   refine need_mk (by unfold i64ok; omega) (cond_f (by simp; omega) ?_)
   rw [List.drop_eq_nil_of_le (by rw [List.length_take]; omega)]; rfl
 | succ m ih=>
  intro f3 i hi hf
  have hlt:i < (acc.take (f.length - 1)).length:=by rw [List.length_take]; omega
  have hd:(acc.take (f.length - 1)).drop i=acc.getD i 0::(acc.take (f.length - 1)).drop (i+1):=by
   rw [List.drop_eq_getElem_cons hlt,List.getElem_take,List.getD_eq_getElem?_getD,List.getElem?_eq_getElem (by omega)]; rfl
  cases f3 with
  | zero=>omega
  | succ f3=>
   rw [Bright_5_eq,Int.toNat_natCast,hd,List.all_cons]
   refine need_mk (by unfold i64ok; omega) (cond_t (by simp; omega) (need_mk ⟨by omega,by omega⟩ (need_mk (by omega) ?_)))
   cases hc:acc.getD i 0==(1:Int) with
   | false=>exact cond_t (by rw [bne,hc]; rfl) rfl
   | true=>
    refine cond_f (by rw [bne,hc]; rfl) (need_mk (by unfold i64ok; omega) ?_)
    rw [show (i:Int)+1=((i+1:Nat):Int) by omega,ih f3 (i+1) (by omega) (by omega),Bool.true_and]
theorem goR_len:∀ (r:List TermT) (i:Nat) (acc out:List Int),goR i r acc=some out->out.length=acc.length
 | [],i,acc,out,h=>by cases h; rfl
 | t::r,i,acc,out,h=>by
  rw [goR] at h
  split at h
  .cases h
  .split at h
   .cases h
   .rename_i acc' hk
    rw [goR_len r _ _ out h,kidsR_len _ _ _ _ hk]
theorem right_eq (f:List TermT) (hk:rightok f):Fright (f.length+1000003) f=some (.p (.bool (rightP f)),[]):=by
 rw [Fright_eq,rightP]
 by_cases h40:f.length > 40
 .rw [if_pos h40]; exact cond_t (by simp; omega) rfl
 .rw [if_neg h40]
  refine cond_f (by simp; omega) (need_mk ⟨by omega,by omega,by omega,by omega⟩ ?_)
  rw [Int.toNat_natCast,show (0:Int)=((0:Nat):Int) from rfl,Bright_1_spec _ f (by omega) hk.2 f _ 0 _ rfl (by omega) (by omega) (by simp) (fun x hx=>by rw [(List.mem_replicate.1 hx).2]; omega)]
  cases hg:goR 0 f (List.replicate f.length ((0:Nat):Int)) with
  | none=>rfl
  | some acc=>
   dsimp only
   have hl:=goR_len _ _ _ _ hg
   rw [List.length_replicate] at hl
   exact Bright_5_spec _ f (by omega) acc hl (f.length - 1) _ 0 (by omega) (by omega)
def sp_right:List AV->Option (AV×Option Prop)
 | [.p .nil]=>some (.p (.bool true),none)
 | [.p (.list 6 R)]=>match pList termC (.list 6 R) with
  | some f=>some (.p (.bool (rightP f)),some (rightok f))
  | none=>none
 | _=>none
theorem ok_right:SpecOk Tryz.prog 21 sp_right:=by
 intro zs r ok he hok
 unfold sp_right at he
 split at he
 .cases he
  exact ⟨by kernel_rfl,FnP_args (fun M vs h=>by
   cases h with | cons h1 h=>
   cases h
   exact .cons (ARel.nil_list (R:=.dat termC []) (k:=6) rfl h1) .nil) (fn_right (1000003) [] _ fun _=>right_eq [] ⟨by simp,by simp⟩)⟩
 .rename_i R
  split at he
  .rename_i f hf
   cases he
   obtain ⟨rfl,_⟩:=pList_row hf
   exact ⟨by kernel_rfl,fn_right (_) f _ fun _=>right_eq f hok⟩
  .cases he
 .cases he
end Go.Proofs.YtampckbjinodgaaGreatDoor
