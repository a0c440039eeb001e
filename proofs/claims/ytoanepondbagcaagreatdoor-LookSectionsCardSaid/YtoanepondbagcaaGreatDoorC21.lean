/-
  Lifted functions, and facts about them.
-/
import Derived.Test.YtoanepondbagcaaGreatDoorRows
import Derived.Test.YtoanepondbagcaaGreatDoorAmC
import Derived.Test.YtoanepondbagcaaGreatDoorC01
import Derived.Test.YtoanepondbagcaaGreatDoorC20
import Derived.Deep.Slices
import Derived.Carry
namespace Go.Proofs.YtoanepondbagcaaGreatDoor
open Go Go.Am
set_option linter.unusedVariables false
noncomputable def GLookSections:Cfg:=⟨Tryz.prog,mkEnv [(10,sp_awake),(15,sp_section),(16,sp_rsection)],mkEnvR [],41,[],[],[]⟩
noncomputable def FLookSections (F:Nat) (s p:List UInt8):Option Ans:=runF GLookSections Tryz.f5 F [.p (.str s),.p (.str p)]
theorem FLookSections_eq (F:Nat) (s p:List UInt8):FLookSections F s p=cond ((decide ((s.length:Int) > (3000:Int)))||(decide ((p.length:Int) > (300:Int)))) (some (.p (.bool true),[])) (need (s.length<=1000000/\p.length<=100000) (need (s.length<=1000000/\p.length<=100000) (some (.p (.bool (((((sectS s p).1)==((sectS s p).1))&&(((sectS s p).2)==((sectS s p).2)))&&true)),[])))):=
 Eq.trans (show FLookSections F s p=need ((!(decide ((s.length:Int) > (3000:Int))))=true->(!(decide ((s.length:Int) > (3000:Int))))=true) (need ((!(decide ((s.length:Int) > (3000:Int))))=true->(!(decide ((s.length:Int) > (3000:Int))))=true) (need ((decide ((s.length:Int) > (3000:Int)))=false->(!(decide ((s.length:Int) > (3000:Int))))=true) (cond ((decide ((s.length:Int) > (3000:Int)))||(decide ((p.length:Int) > (300:Int)))) (some (.p (.bool true),[])) (need (s.length<=1000000/\p.length<=100000) (need (s.length<=1000000/\p.length<=100000) (need ((((sectS s p).1)==((sectS s p).1))=true->(((sectS s p).1)==((sectS s p).1))=true) (need ((((sectS s p).1)==((sectS s p).1))=true->(((sectS s p).1)==((sectS s p).1))=true) (need ((((sectS s p).1)==((sectS s p).1))=true->(((sectS s p).1)==((sectS s p).1))=true) (need (((((sectS s p).1)==((sectS s p).1))&&(((sectS s p).2)==((sectS s p).2)))=true->((((sectS s p).1)==((sectS s p).1))&&(((sectS s p).2)==((sectS s p).2)))=true) (some (.p (.bool (((((sectS s p).1)==((sectS s p).1))&&(((sectS s p).2)==((sectS s p).2)))&&true)),[]))))))))))) by kernel_rfl) (need_strike (show (!(decide ((s.length:Int) > (3000:Int))))=true->(!(decide ((s.length:Int) > (3000:Int))))=true from (fun q0=>q0)) (need_strike (show (!(decide ((s.length:Int) > (3000:Int))))=true->(!(decide ((s.length:Int) > (3000:Int))))=true from (fun q0=>q0)) (need_strike (show (decide ((s.length:Int) > (3000:Int)))=false->(!(decide ((s.length:Int) > (3000:Int))))=true from (fun q0=>(not_mk q0))) (cond_congr (rfl) (need_congr (need_congr (need_strike (show (((sectS s p).1)==((sectS s p).1))=true->(((sectS s p).1)==((sectS s p).1))=true from (fun q0=>q0)) (need_strike (show (((sectS s p).1)==((sectS s p).1))=true->(((sectS s p).1)==((sectS s p).1))=true from (fun q0=>q0)) (need_strike (show (((sectS s p).1)==((sectS s p).1))=true->(((sectS s p).1)==((sectS s p).1))=true from (fun q0=>q0)) (need_strike (show ((((sectS s p).1)==((sectS s p).1))&&(((sectS s p).2)==((sectS s p).2)))=true->((((sectS s p).1)==((sectS s p).1))&&(((sectS s p).2)==((sectS s p).2)))=true from (fun q0=>q0)) (rfl)))))))))))
theorem fn_LookSections (F:Nat) (s p:List UInt8) (r:AV) (h:(∃ M vs,ARels γ0 M [.p (.str s),.p (.str p)] vs)->FLookSections F s p=some (r,[])):FnP Tryz.prog 5 [.p (.str s),.p (.str p)] r:=
 FnP_run GLookSections F rfl (EnvOk_mk (l:=[(10,sp_awake),(15,sp_section),(16,sp_rsection)]) ⟨ok_awake.any,ok_section.any,ok_rsection.any,trivial⟩) (EnvROk_mk (l:=[]) trivial) (Checked.mixed Tryz.checked) (fn:=Tryz.f5) (by kernel_rfl) (by kernel_rfl) rfl h
theorem LookSections_true (s p:List UInt8):FLookSections 0 s p=some (.p (.bool true),[]):=by
 rw [FLookSections_eq]
 by_cases h:s.length > 3000\/p.length > 300
 .exact cond_t (by rcases h with h | h <;> simp <;> omega) rfl
 .have h1:s.length<=1000000/\p.length<=100000:=by omega
  refine cond_f (by simp; omega) (need_mk h1 (need_mk h1 ?_))
  rw [beq_self_eq_true,beq_self_eq_true]; rfl
end Go.Proofs.YtoanepondbagcaaGreatDoor
namespace Go.Am
open Go Go.RowKit Go.ChangeShapes Go.WideShapes
def memOf (w:World):Mem:=fun b o=>w.cell? ⟨b,o,none⟩
theorem memOf_ok (w:World):MOk (memOf w) w:=fun _ _ _ h=>h
section
variable {H:Type} {enc:TypeId×Value->H} {P:Program} {w:World} {spare:Nat->Bool} {held:Bool} {M:Mem}
end
theorem walk_of_FnP2 {P:Program} {f:FuncId} {args:List AV} (h:FnP P f args (.p (.bool true))) {vs:List Value} (w:World) (hv:ARels γ0 (memOf w) args vs):
 Calls P f vs.toArray w fun e w'=>e=.returned (.bool true)/\Below w.heap.size w w':=by
 refine (h (memOf w) w vs (memOf_ok w) hv).mono fun e w' ⟨v,M',he,_,_,_,hr,hb⟩=>?_
 rw [hr.bool_inv] at he
 exact ⟨he,hb⟩
theorem str_argM (M:Mem) (a:ByteArray) (h:a.size<=maxLen):ARel γ0 M (.p (.str a.data.toList)) (.string a):=
 .p _ _ (.str a.data.toList (by rw [Array.length_toList]; exact h))
end Go.Am
