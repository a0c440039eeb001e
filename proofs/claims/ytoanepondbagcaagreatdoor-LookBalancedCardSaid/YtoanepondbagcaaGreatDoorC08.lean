/-
  Lifted functions, and facts about them.
-/
import Derived.Test.YtoanepondbagcaaGreatDoorRows
import Derived.Test.YtoanepondbagcaaGreatDoorAmC
import Derived.Test.YtoanepondbagcaaGreatDoorC01
import Derived.Test.YtoanepondbagcaaGreatDoorC14IxAny2
import Derived.Test.YtoanepondbagcaaGreatDoorC02
import Derived.RangeFuncRecord
import Derived.RangeFuncLeaves
import Derived.Test.YtoanepondbagcaaGreatDoorC07
namespace Go.Proofs.YtoanepondbagcaaGreatDoor
open Go Go.Am
set_option linter.unusedVariables false
theorem FnP_pure {P:Program} {f:FuncId} {args:List AV} {r:AV} (h:∀ (M:Mem) (w:World) (vs:List Value),ARels γ0 M args vs->∃ v,(∀ M',ARel γ0 M' r v)/\Calls P f vs.toArray w fun e w'=>e=.returned v/\RowKit.Below w.heap.size w w'):FnP P f args r:=by
 intro M w vs hM hvs
 obtain ⟨v,hr,hc⟩:=h M w vs hvs
 refine hc.mono fun e w' ⟨he,hB⟩=>⟨v,M,he,MLe.refl M,fun _ _=>rfl,⟨fun b q u hu=>?_,hM.good⟩,hr M,hB⟩
 have hc:=hM b q u hu
 have hb:b < w.heap.size:=World.block_lt_of_cell? w ⟨b,q,none⟩ hc
 rw [World.cell?_of_block (w:=w) (hB.block b hb)]; exact hc
def trimLB (s:List UInt8):List UInt8:=s.dropWhile isBl2
def trimRB (s:List UInt8):List UInt8:=(s.reverse.dropWhile isBl2).reverse
theorem trimLB_len (s:List UInt8):(trimLB s).length<=s.length:=dropWhile_le isBl2 s
theorem trimRB_len (s:List UInt8):(trimRB s).length<=s.length:=by unfold trimRB; have:=dropWhile_le isBl2 s.reverse; simp at this ⊢; exact this
open Go.Shelf Go.Lib in
set_option maxRecDepth 100000 in
theorem fn_triml (s:List UInt8) (hs:s.length<=1000000):FnP Tryz.prog 150 [.p (.str s),.p (.str [32,9])] (.p (.str (trimLB s))):=by
 refine FnP_pure fun M w vs hvs=>⟨.string ⟨(trimLB s).toArray⟩,fun M'=>.p _ _ (.str _ (by have:=trimLB_len s; unfold maxLen; omega)),?_⟩
 cases hvs with | cons h1 h2=>
 cases h2 with | cons h2 h3=>
 cases h3
 cases h1 with | p _ _ h1=>
 cases h2 with | p _ _ h2=>
 cases h1 with | str _ _=>
 cases h2 with | str _ _=>
 exact Any.strings_TrimLeft_laid lays161 (by kernel_rfl) ⟨s.toArray⟩ ⟨#[32,9]⟩ w (by decide) (ascii_of_all (by decide))
open Go.Shelf Go.Lib in
set_option maxRecDepth 100000 in
theorem fn_trimr (s:List UInt8) (hs:s.length<=1000000):FnP Tryz.prog 100 [.p (.str s),.p (.str [32,9])] (.p (.str (trimRB s))):=by
 refine FnP_pure fun M w vs hvs=>⟨.string ⟨(trimRB s).toArray⟩,fun M'=>.p _ _ (.str _ (by have:=trimRB_len s; unfold maxLen; omega)),?_⟩
 cases hvs with | cons h1 h2=>
 cases h2 with | cons h2 h3=>
 cases h3
 cases h1 with | p _ _ h1=>
 cases h2 with | p _ _ h2=>
 cases h1 with | str _ _=>
 cases h2 with | str _ _=>
 exact Any.strings_TrimRight_laid lays162 (by kernel_rfl) ⟨s.toArray⟩ ⟨#[32,9]⟩ w (by show s.toArray.size<=_; simp; omega) (by decide) (ascii_of_all (by decide))
def ixSep (s:List UInt8):Int:=Lib.indexAny s [61,59]
theorem ixSep_ge (s:List UInt8):-1<=ixSep s:=Lib.indexAny_ge _ _
theorem fn_ixany (s:List UInt8) (hs:s.length<=1000000):FnP Tryz.prog 151 [.p (.str s),.p (.str [61,59])] (.p (.int .i64 (ixSep s))):=by
 have hlt:∀ l:List UInt8,Lib.indexAny l [61,59] < l.length+1:=by
  intro l
  induction l with
  | nil=>decide
  | cons b l ih=>
   unfold Lib.indexAny
   split
   .simp; omega
   .split
    .simp; omega
    .simp; omega
 refine FnP_pure fun M w vs hvs=>⟨.int .i64 (ixSep s),fun M'=>.p _ _ (.int _ _ ?_),?_⟩
 .have h1:=ixSep_ge s
  have h2:=hlt s
  unfold ixSep at h1 ⊢
  have h3:=hlt s
  show IntKind.i64.min<=_/\_<=IntKind.i64.max
  rw [show IntKind.i64.min=-9223372036854775808 from rfl,show IntKind.i64.max=9223372036854775807 from rfl]
  omega
 cases hvs with | cons h1 h2=>
 cases h2 with | cons h2 h3=>
 cases h3
 cases h1 with | p _ _ h1=>
 cases h2 with | p _ _ h2=>
 cases h1 with | str _ _=>
 cases h2 with | str _ _=>
 exact ia_all ⟨s.toArray⟩ w (by show s.toArray.size < _; simp; omega)
def sp_triml:List AV->Option (AV×Option Prop)
 | [.p (.str s),.p (.str [32,9])]=>some (.p (.str (trimLB s)),some (s.length<=1000000))
 | _=>none
theorem ok_triml:SpecOk Tryz.prog 150 sp_triml:=by
 intro zs r ok he hok
 unfold sp_triml at he
 split at he
 .cases he; exact ⟨by kernel_rfl,fn_triml _ hok⟩
 .cases he
def sp_trimr:List AV->Option (AV×Option Prop)
 | [.p (.str s),.p (.str [32,9])]=>some (.p (.str (trimRB s)),some (s.length<=1000000))
 | _=>none
theorem ok_trimr:SpecOk Tryz.prog 100 sp_trimr:=by
 intro zs r ok he hok
 unfold sp_trimr at he
 split at he
 .cases he; exact ⟨by kernel_rfl,fn_trimr _ hok⟩
 .cases he
def sp_ixany:List AV->Option (AV×Option Prop)
 | [.p (.str s),.p (.str [61,59])]=>some (.p (.int .i64 (ixSep s)),some (s.length<=1000000))
 | _=>none
theorem ok_ixany:SpecOk Tryz.prog 151 sp_ixany:=by
 intro zs r ok he hok
 unfold sp_ixany at he
 split at he
 .cases he; exact ⟨by kernel_rfl,fn_ixany _ hok⟩
 .cases he
end Go.Proofs.YtoanepondbagcaaGreatDoor
namespace Go.Proofs.YtoanepondbagcaaGreatDoor
open Go Go.Am
set_option linter.unusedVariables false
def cutS (s:List UInt8) (c:UInt8):List UInt8×List UInt8×Bool:=
 if ixS s (c.toNat:Int)>=0 then (s.take (ixS s (c.toNat:Int)).toNat,s.drop ((ixS s (c.toNat:Int))+1).toNat,true) else (s,[],false)
noncomputable def Gcutl:Cfg:=⟨Tryz.prog,mkEnv [(126,sp_ixl)],mkEnvR [],23,[],[],[]⟩
noncomputable def Fcutl (F:Nat) (s:List UInt8) (c:UInt8):Option Ans:=runF Gcutl Tryz.f90 F [.p (.str s),.p (.str [c])]
theorem Fcutl_eq (F:Nat) (s:List UInt8) (c:UInt8):Fcutl F s c=cond (decide ((ixS s (c.toNat:Int))>=(0:Int))) (need (0<=(ixS s (c.toNat:Int))/\(ixS s (c.toNat:Int))<=(s.length:Int)) (need (i64ok ((ixS s (c.toNat:Int))+(1:Int))) (need (0<=((ixS s (c.toNat:Int))+(1:Int))/\((ixS s (c.toNat:Int))+(1:Int))<=(s.length:Int)) (some (.tup [.p (.str (s.take (ixS s (c.toNat:Int)).toNat)),.p (.str (s.drop ((ixS s (c.toNat:Int))+(1:Int)).toNat)),.p (.bool true)],[]))))) (some (.tup [.p (.str s),.p (.str ([]:List UInt8)),.p (.bool false)],[])):=by kernel_rfl
theorem fn_cutl (F:Nat) (s:List UInt8) (c:UInt8) (r:AV) (h:(∃ M vs,ARels γ0 M [.p (.str s),.p (.str [c])] vs)->Fcutl F s c=some (r,[])):FnP Tryz.prog 90 [.p (.str s),.p (.str [c])] r:=
 FnP_run Gcutl F rfl (EnvOk_mk (l:=[(126,sp_ixl)]) ⟨ok_ixl.any,trivial⟩) (EnvROk_mk (l:=[]) trivial) (Checked.mixed Tryz.checked) (fn:=Tryz.f90) (by kernel_rfl) (by kernel_rfl) rfl h
theorem ixS_lt (s:List UInt8) (c:Int):ixS s c < s.length\/ixS s c=-1:=indexByte_lt s c.toNat.toUInt8
theorem cutl_eq (s:List UInt8) (c:UInt8) (hs:s.length<=1000000):Fcutl 0 s c=some (.tup [.p (.str (cutS s c).1),.p (.str (cutS s c).2.1),.p (.bool (cutS s c).2.2)],[]):=by
 rw [Fcutl_eq,cutS]
 have h:=ixS_lt s (c.toNat:Int)
 by_cases hc:ixS s (c.toNat:Int)>=0
 .refine cond_t (by simpa using hc) ?_
  rw [if_pos hc]
  refine need_mk (by omega) (need_mk (by unfold i64ok; omega) (need_mk (by omega) rfl))
 .refine cond_f (by simpa using hc) ?_
  rw [if_neg hc]
def sp_cutl:List AV->Option (AV×Option Prop)
 | [.p (.str s),.p (.str [c])]=>some (.tup [.p (.str ((cutS s c).1)),.p (.str ((cutS s c).2.1)),.p (.bool ((cutS s c).2.2))],some (s.length<=1000000))
 | _=>none
theorem ok_cutl:SpecOk Tryz.prog 90 sp_cutl:=by
 intro zs r ok he hok
 unfold sp_cutl at he
 split at he
 .cases he; exact ⟨by kernel_rfl,fn_cutl 0 _ _ _ fun hx=>cutl_eq _ _ hok⟩
 .cases he
noncomputable def Gcut:Cfg:=⟨Tryz.prog,mkEnv [(90,sp_cutl)],mkEnvR [],13,[],[],[]⟩
noncomputable def Fcut (F:Nat) (s:List UInt8) (c:UInt8):Option Ans:=runF Gcut Tryz.f53 F [.p (.str s),.p (.str [c])]
theorem Fcut_eq (F:Nat) (s:List UInt8) (c:UInt8):Fcut F s c=need (s.length<=1000000) (some (.tup [.p (.str ((cutS s c).1)),.p (.str ((cutS s c).2.1)),.p (.bool ((cutS s c).2.2))],[])):=by kernel_rfl
theorem fn_cut (F:Nat) (s:List UInt8) (c:UInt8) (r:AV) (h:(∃ M vs,ARels γ0 M [.p (.str s),.p (.str [c])] vs)->Fcut F s c=some (r,[])):FnP Tryz.prog 53 [.p (.str s),.p (.str [c])] r:=
 FnP_run Gcut F rfl (EnvOk_mk (l:=[(90,sp_cutl)]) ⟨ok_cutl.any,trivial⟩) (EnvROk_mk (l:=[]) trivial) (Checked.mixed Tryz.checked) (fn:=Tryz.f53) (by kernel_rfl) (by kernel_rfl) rfl h
theorem cut_eq (s:List UInt8) (c:UInt8) (hs:s.length<=1000000):Fcut 0 s c=some (.tup [.p (.str (cutS s c).1),.p (.str (cutS s c).2.1),.p (.bool (cutS s c).2.2)],[]):=by
 rw [Fcut_eq]; exact need_pos hs
def sp_cut:List AV->Option (AV×Option Prop)
 | [.p (.str s),.p (.str [c])]=>some (.tup [.p (.str ((cutS s c).1)),.p (.str ((cutS s c).2.1)),.p (.bool ((cutS s c).2.2))],some (s.length<=1000000))
 | _=>none
theorem ok_cut:SpecOk Tryz.prog 53 sp_cut:=by
 intro zs r ok he hok
 unfold sp_cut at he
 split at he
 .cases he; exact ⟨by kernel_rfl,fn_cut 0 _ _ _ fun hx=>cut_eq _ _ hok⟩
 .cases he
end Go.Proofs.YtoanepondbagcaaGreatDoor
namespace Go.Proofs.YtoanepondbagcaaGreatDoor
open Go Go.Am
set_option linter.unusedVariables false
theorem ixb_split (c:UInt8):∀ (s:List UInt8),(∃ p q,s=p++c::q/\(∀ x ∈ p,x≠c)/\Lib.indexByte s c=(p.length:Int))\/((∀ x ∈ s,x≠c)/\Lib.indexByte s c=-1)
 | []=>.inr ⟨by simp,rfl⟩
 | b::l=>by
  by_cases h:b=c
  .subst h
   exact .inl ⟨[],l,rfl,by simp,by simp [Lib.indexByte]⟩
  .rcases ixb_split c l with ⟨p,q,e,hp,hi⟩ | ⟨hn,hi⟩
   .refine .inl ⟨b::p,q,by rw [e]; rfl,?_,?_⟩
    .intro x hx
     rcases List.mem_cons.1 hx with rfl | hx
     .exact h
     .exact hp x hx
    .unfold Lib.indexByte
     rw [if_neg (by simpa using h),hi,if_neg (by simp)]
     simp only [List.length_cons]; omega
   .refine .inr ⟨?_,?_⟩
    .intro x hx
     rcases List.mem_cons.1 hx with rfl | hx
     .exact h
     .exact hn x hx
    .simp [Lib.indexByte,hi,h]
theorem ixS_u8 (s:List UInt8) (c:UInt8):ixS s (c.toNat:Int)=Lib.indexByte s c:=by unfold ixS; rw [u8c]
theorem cut_split (c:UInt8) (s:List UInt8):(∃ p q,s=p++c::q/\(∀ x ∈ p,x≠c)/\cutS s c=(p,q,true))\/((∀ x ∈ s,x≠c)/\cutS s c=(s,[],false)):=by
 rcases ixb_split c s with ⟨p,q,e,hp,hi⟩ | ⟨hn,hi⟩
 .refine .inl ⟨p,q,e,hp,?_⟩
  rw [cutS,ixS_u8,hi,if_pos (by omega)]
  have e1:((p.length:Int)+1).toNat=p.length+1:=by omega
  rw [Int.toNat_natCast,e1,e]
  simp
 .refine .inr ⟨hn,?_⟩
  rw [cutS,ixS_u8,hi,if_neg (by decide)]
theorem cutS_len (s:List UInt8) (c:UInt8):(cutS s c).1.length+(cutS s c).2.1.length<=s.length:=by
 rcases cut_split c s with ⟨p,q,e,_,hc⟩ | ⟨_,hc⟩
 .rw [hc,e]; simp
 .rw [hc]; simp
end Go.Proofs.YtoanepondbagcaaGreatDoor
namespace Go.Proofs.YtoanepondbagcaaGreatDoor
open Go Go.Am
set_option linter.unusedVariables false
def hasSuf (s p:List UInt8):Bool:=decide ((s.length:Int)>=(p.length:Int))&&(s.drop (s.length - p.length)==p)
def trimSuf (s p:List UInt8):List UInt8:=if hasSuf s p=true then s.take (s.length - p.length) else s
noncomputable def Ghsl:Cfg:=⟨Tryz.prog,mkEnv [],mkEnvR [],21,[],[],[]⟩
noncomputable def Fhsl (F:Nat) (s p:List UInt8):Option Ans:=runF Ghsl Tryz.f106 F [.p (.str s),.p (.str p)]
theorem Fhsl_eq (F:Nat) (s p:List UInt8):Fhsl F s p=need ((decide ((s.length:Int)>=(p.length:Int)))=true->i64ok ((s.length:Int) - (p.length:Int))) (need ((decide ((s.length:Int)>=(p.length:Int)))=true->0<=((s.length:Int) - (p.length:Int))/\((s.length:Int) - (p.length:Int))<=(s.length:Int)) (some (.p (.bool ((decide ((s.length:Int)>=(p.length:Int)))&&((s.drop ((s.length:Int) - (p.length:Int)).toNat)==p))),[]))):=
 Eq.trans (show Fhsl F s p=need ((decide ((s.length:Int)>=(p.length:Int)))=true->(decide ((s.length:Int)>=(p.length:Int)))=true) (need ((decide ((s.length:Int)>=(p.length:Int)))=true->(decide ((s.length:Int)>=(p.length:Int)))=true) (need ((decide ((s.length:Int)>=(p.length:Int)))=true->(decide ((s.length:Int)>=(p.length:Int)))=true) (need ((decide ((s.length:Int)>=(p.length:Int)))=true->(decide ((s.length:Int)>=(p.length:Int)))=true) (need ((decide ((s.length:Int)>=(p.length:Int)))=true->i64ok ((s.length:Int) - (p.length:Int))) (need ((decide ((s.length:Int)>=(p.length:Int)))=true->(decide ((s.length:Int)>=(p.length:Int)))=true) (need ((decide ((s.length:Int)>=(p.length:Int)))=true->(decide ((s.length:Int)>=(p.length:Int)))=true) (need ((decide ((s.length:Int)>=(p.length:Int)))=true->0<=((s.length:Int) - (p.length:Int))/\((s.length:Int) - (p.length:Int))<=(s.length:Int)) (need ((decide ((s.length:Int)>=(p.length:Int)))=true->(decide ((s.length:Int)>=(p.length:Int)))=true) (need ((decide ((s.length:Int)>=(p.length:Int)))=true->(decide ((s.length:Int)>=(p.length:Int)))=true) (need ((decide ((s.length:Int)>=(p.length:Int)))=true->(decide ((s.length:Int)>=(p.length:Int)))=true) (some (.p (.bool ((decide ((s.length:Int)>=(p.length:Int)))&&((s.drop ((s.length:Int) - (p.length:Int)).toNat)==p))),[])))))))))))) by kernel_rfl) (need_strike (show (decide ((s.length:Int)>=(p.length:Int)))=true->(decide ((s.length:Int)>=(p.length:Int)))=true from (fun q0=>q0)) (need_strike (show (decide ((s.length:Int)>=(p.length:Int)))=true->(decide ((s.length:Int)>=(p.length:Int)))=true from (fun q0=>q0)) (need_strike (show (decide ((s.length:Int)>=(p.length:Int)))=true->(decide ((s.length:Int)>=(p.length:Int)))=true from (fun q0=>q0)) (need_strike (show (decide ((s.length:Int)>=(p.length:Int)))=true->(decide ((s.length:Int)>=(p.length:Int)))=true from (fun q0=>q0)) (need_congr (need_strike (show (decide ((s.length:Int)>=(p.length:Int)))=true->(decide ((s.length:Int)>=(p.length:Int)))=true from (fun q0=>q0)) (need_strike (show (decide ((s.length:Int)>=(p.length:Int)))=true->(decide ((s.length:Int)>=(p.length:Int)))=true from (fun q0=>q0)) (need_congr (need_strike (show (decide ((s.length:Int)>=(p.length:Int)))=true->(decide ((s.length:Int)>=(p.length:Int)))=true from (fun q0=>q0)) (need_strike (show (decide ((s.length:Int)>=(p.length:Int)))=true->(decide ((s.length:Int)>=(p.length:Int)))=true from (fun q0=>q0)) (need_strike (show (decide ((s.length:Int)>=(p.length:Int)))=true->(decide ((s.length:Int)>=(p.length:Int)))=true from (fun q0=>q0)) (rfl))))))))))))
theorem fn_hsl (F:Nat) (s p:List UInt8) (r:AV) (h:(∃ M vs,ARels γ0 M [.p (.str s),.p (.str p)] vs)->Fhsl F s p=some (r,[])):FnP Tryz.prog 106 [.p (.str s),.p (.str p)] r:=
 FnP_run Ghsl F rfl (EnvOk_mk (l:=[]) trivial) (EnvROk_mk (l:=[]) trivial) (Checked.mixed Tryz.checked) (fn:=Tryz.f106) (by kernel_rfl) (by kernel_rfl) rfl h
theorem hsl_eq (s p:List UInt8) (hs:s.length<=1000000):Fhsl 0 s p=some (.p (.bool (hasSuf s p)),[]):=by
 have e:((s.length:Int) - (p.length:Int)).toNat=s.length - p.length:=by omega
 rw [Fhsl_eq,e]
 exact need_mk (fun h=>by unfold i64ok; simp at h; omega) (need_mk (fun h=>by simp at h; omega) rfl)
def sp_hsl:List AV->Option (AV×Option Prop)
 | [.p (.str s),.p (.str p)]=>some (.p (.bool (hasSuf s p)),some (s.length<=1000000))
 | _=>none
theorem ok_hsl:SpecOk Tryz.prog 106 sp_hsl:=by
 intro zs r ok he hok
 unfold sp_hsl at he
 split at he
 .cases he; exact ⟨by kernel_rfl,fn_hsl 0 _ _ _ fun hx=>hsl_eq _ _ hok⟩
 .cases he
noncomputable def Gtsl:Cfg:=⟨Tryz.prog,mkEnv [(106,sp_hsl)],mkEnvR [],16,[],[],[]⟩
noncomputable def Ftsl (F:Nat) (s p:List UInt8):Option Ans:=runF Gtsl Tryz.f131 F [.p (.str s),.p (.str p)]
theorem Ftsl_eq (F:Nat) (s p:List UInt8):Ftsl F s p=need (s.length<=1000000) (cond (hasSuf s p) (need (i64ok ((s.length:Int) - (p.length:Int))) (need (0<=((s.length:Int) - (p.length:Int))/\((s.length:Int) - (p.length:Int))<=(s.length:Int)) (some (.p (.str (s.take ((s.length:Int) - (p.length:Int)).toNat)),[])))) (some (.p (.str s),[]))):=by kernel_rfl
theorem fn_tsl (F:Nat) (s p:List UInt8) (r:AV) (h:(∃ M vs,ARels γ0 M [.p (.str s),.p (.str p)] vs)->Ftsl F s p=some (r,[])):FnP Tryz.prog 131 [.p (.str s),.p (.str p)] r:=
 FnP_run Gtsl F rfl (EnvOk_mk (l:=[(106,sp_hsl)]) ⟨ok_hsl.any,trivial⟩) (EnvROk_mk (l:=[]) trivial) (Checked.mixed Tryz.checked) (fn:=Tryz.f131) (by kernel_rfl) (by kernel_rfl) rfl h
theorem tsl_eq (s p:List UInt8) (hs:s.length<=1000000):Ftsl 0 s p=some (.p (.str (trimSuf s p)),[]):=by
 have e:((s.length:Int) - (p.length:Int)).toNat=s.length - p.length:=by omega
 rw [Ftsl_eq,trimSuf,e]
 refine need_mk hs ?_
 by_cases h:hasSuf s p=true
 .have h2:=h
  unfold hasSuf at h2
  rw [Bool.and_eq_true] at h2
  have h3:=of_decide_eq_true h2.1
  refine cond_t h (need_mk (by unfold i64ok; omega) (need_mk (by omega) ?_))
  rw [if_pos h]
 .refine cond_f (by simpa using h) ?_
  rw [if_neg h]
def sp_tsl:List AV->Option (AV×Option Prop)
 | [.p (.str s),.p (.str p)]=>some (.p (.str (trimSuf s p)),some (s.length<=1000000))
 | _=>none
theorem ok_tsl:SpecOk Tryz.prog 131 sp_tsl:=by
 intro zs r ok he hok
 unfold sp_tsl at he
 split at he
 .cases he; exact ⟨by kernel_rfl,fn_tsl 0 _ _ _ fun hx=>tsl_eq _ _ hok⟩
 .cases he
noncomputable def Gts:Cfg:=⟨Tryz.prog,mkEnv [(131,sp_tsl)],mkEnvR [],8,[],[],[]⟩
noncomputable def Fts (F:Nat) (s p:List UInt8):Option Ans:=runF Gts Tryz.f99 F [.p (.str s),.p (.str p)]
theorem Fts_eq (F:Nat) (s p:List UInt8):Fts F s p=need (s.length<=1000000) (some (.p (.str (trimSuf s p)),[])):=by kernel_rfl
theorem fn_ts (F:Nat) (s p:List UInt8) (r:AV) (h:(∃ M vs,ARels γ0 M [.p (.str s),.p (.str p)] vs)->Fts F s p=some (r,[])):FnP Tryz.prog 99 [.p (.str s),.p (.str p)] r:=
 FnP_run Gts F rfl (EnvOk_mk (l:=[(131,sp_tsl)]) ⟨ok_tsl.any,trivial⟩) (EnvROk_mk (l:=[]) trivial) (Checked.mixed Tryz.checked) (fn:=Tryz.f99) (by kernel_rfl) (by kernel_rfl) rfl h
theorem ts_eq (s p:List UInt8) (hs:s.length<=1000000):Fts 0 s p=some (.p (.str (trimSuf s p)),[]):=by rw [Fts_eq]; exact need_mk hs rfl
def sp_ts:List AV->Option (AV×Option Prop)
 | [.p (.str s),.p (.str p)]=>some (.p (.str (trimSuf s p)),some (s.length<=1000000))
 | _=>none
theorem ok_ts:SpecOk Tryz.prog 99 sp_ts:=by
 intro zs r ok he hok
 unfold sp_ts at he
 split at he
 .cases he; exact ⟨by kernel_rfl,fn_ts 0 _ _ _ fun hx=>ts_eq _ _ hok⟩
 .cases he
end Go.Proofs.YtoanepondbagcaaGreatDoor
namespace Go.Proofs.YtoanepondbagcaaGreatDoor
open Go Go.Am
set_option linter.unusedVariables false
def BIndex_1 (fuel:Nat) :Nat->List UInt8->List UInt8->Int->Option Int
 | 0,_,_,_=>none
 | f1+1,s,sub,vi1=>if i64ok (vi1+(sub.length:Int)) then (if (decide ((vi1+(sub.length:Int))<=(s.length:Int)))=true then (if (i64ok (vi1+(sub.length:Int)))/\(0<=vi1/\vi1<=(vi1+(sub.length:Int))/\(vi1+(sub.length:Int))<=(s.length:Int)) then (if (((s.take (vi1+(sub.length:Int)).toNat).drop (vi1).toNat)==sub)=true then (some vi1) else (if i64ok (vi1+(1:Int)) then (BIndex_1 fuel f1 s sub (vi1+(1:Int))) else none)) else none) else (some (-1:Int))) else none
def FIndex (fuel:Nat) (s sub:List UInt8) (from_:Int):Option Int:=BIndex_1 fuel fuel s sub from_
noncomputable def cIndex:Code:=bodyOf Tryz.f22
def envIndex:Env:=mkEnv []
theorem envIndex_ok:EnvOk Tryz.prog envIndex:=EnvOk_mk trivial
theorem TIndex (fuel:Nat) (s sub:List UInt8) (from_ res:Int) (h:FIndex fuel s sub from_=some res) (C:Ctx) (hC:CtxOk C 28 []):
 T Tryz.prog C (at_ cIndex []) (mkS [(0,.p (.str s)),(1,.p (.str sub)),(2,.p (.int .i64 from_))] []) (Qend Tryz.prog C Tryz.f22.results.toList (.p (.int .i64 res))):=by
 have henv:=envIndex_ok
 unfold FIndex at h
 refine T_seqp (p:=[]) (by kernel_rfl) ?_
 refine T_reg henv hC [] [(0,.p (.str s)),(1,.p (.str sub)),(2,.p (.int .i64 from_))] [] [] (by kernel_rfl) (by kernel_rfl) trivial (fun s1 hs1=>?_)
 refine (T.weaken ?_ hs1:T Tryz.prog C (at_ cIndex [1]) _ _)
 refine T_seqp (p:=[1]) (by kernel_rfl) ?_
 refine T_seqp (p:=[1,0]) (by kernel_rfl) ?_
 refine T_reg henv hC [] [(0,.p (.str s)),(1,.p (.str sub)),(7,.p (.int .i64 from_))] [] [] (by kernel_rfl) (by kernel_rfl) trivial (fun s1 hs1=>?_)
 refine (T.weaken ?_ hs1:T Tryz.prog C (at_ cIndex [1,0,1]) _ _)
 refine T_blockp (p:=[1,0,1]) 0 (by kernel_rfl) ?_
 refine T.weaken ?_ (Sub_view (l:=[(0,.p (.str s)),(1,.p (.str sub)),(7,.p (.int .i64 from_))]) (o:=[]) hC [] (by kernel_rfl) (by kernel_rfl) (by kernel_rfl))
 refine T_loopp (p:=[1,0,1,0]) (by kernel_rfl) (fun f1 s2=>∃ (s:List UInt8) (sub:List UInt8) (vi1:Int),s2=mkS [(0,.p (.str s)),(1,.p (.str sub)),(7,.p (.int .i64 vi1))] []/\BIndex_1 fuel f1 s sub vi1=some res) ?_ fuel ⟨s,sub,from_,rfl,h⟩
 rintro f1 s2 ⟨s,sub,vi1,rfl,h⟩
 cases f1 with
 | zero=>cases h
 | succ f1=>
  rw [BIndex_1] at h
  refine T_seqp (p:=[1,0,1,0,0]) (by kernel_rfl) ?_
  refine T_seqp (p:=[1,0,1,0,0,0]) (by kernel_rfl) ?_
  obtain ⟨hob,h⟩:=ite_get h
  refine T_reg henv hC [] [(0,.p (.str s)),(1,.p (.str sub)),(7,.p (.int .i64 vi1)),(15,.p (.bool (decide ((vi1+(sub.length:Int))<=(s.length:Int)))))] [] [i64ok (vi1+(sub.length:Int))] (by kernel_rfl) (by kernel_rfl) ⟨hob,trivial⟩ (fun s1 hs1=>?_)
  refine (T.weaken ?_ hs1:T Tryz.prog C (at_ cIndex [1,0,1,0,0,0,1]) _ _)
  refine T_condp (p:=[1,0,1,0,0,0,1]) (by kernel_rfl) (decide ((vi1+(sub.length:Int))<=(s.length:Int))) (by kernel_rfl) (fun hb=>?_) (fun hb=>?_)
  .have h:=ite_t h hb
   refine T_skipp (p:=[1,0,1,0,0,0,1,0]) (by kernel_rfl) ?_
   refine (T.weaken ?_ (Sub.refl _):T Tryz.prog C (at_ cIndex [1,0,1,0,0,1]) _ _)
   refine T_seqp (p:=[1,0,1,0,0,1]) (by kernel_rfl) ?_
   refine T_blockp (p:=[1,0,1,0,0,1,0]) 1 (by kernel_rfl) ?_
   refine T_seqp (p:=[1,0,1,0,0,1,0,0]) (by kernel_rfl) ?_
   obtain ⟨hob,h⟩:=ite_get h
   refine T_reg henv hC [] [(0,.p (.str s)),(1,.p (.str sub)),(7,.p (.int .i64 vi1)),(26,.p (.bool (((s.take (vi1+(sub.length:Int)).toNat).drop (vi1).toNat)==sub)))] [] [i64ok (vi1+(sub.length:Int)),0<=vi1/\vi1<=(vi1+(sub.length:Int))/\(vi1+(sub.length:Int))<=(s.length:Int)] (by kernel_rfl) (by kernel_rfl) ⟨hob.1,hob.2,trivial⟩ (fun s1 hs1=>?_)
   refine (T.weaken ?_ hs1:T Tryz.prog C (at_ cIndex [1,0,1,0,0,1,0,0,1]) _ _)
   refine T_condp (p:=[1,0,1,0,0,1,0,0,1]) (by kernel_rfl) (((s.take (vi1+(sub.length:Int)).toNat).drop (vi1).toNat)==sub) (by kernel_rfl) (fun hb=>?_) (fun hb=>?_)
   .have h:=ite_t h hb
    refine T_seqp (p:=[1,0,1,0,0,1,0,0,1,0]) (by kernel_rfl) ?_
    refine T_reg henv hC [] [(6,.p (.int .i64 vi1))] [] [] (by kernel_rfl) (by kernel_rfl) trivial (fun s1 hs1=>?_)
    refine (T.weaken ?_ hs1:T Tryz.prog C (at_ cIndex [1,0,1,0,0,1,0,0,1,0,1]) _ _)
    refine T_retp (p:=[1,0,1,0,0,1,0,0,1,0,1]) (by kernel_rfl) ?_
    refine inblock_ret ?_
    refine then_ret ?_
    refine then_ret ?_
    refine inblock_ret ?_
    refine then_ret ?_
    have h:=Option.some.inj h; subst h
    exact ⟨mkS [(6,.p (.int .i64 vi1))] [],(Sub.refl _),by kernel_rfl⟩
   .have h:=ite_f h hb
    refine T_skipp (p:=[1,0,1,0,0,1,0,0,1,1]) (by kernel_rfl) ?_
    refine (T.weaken ?_ (Sub.refl _):T Tryz.prog C (at_ cIndex [1,0,1,0,0,1,1]) _ _)
    obtain ⟨hob,h⟩:=ite_get h
    refine T_reg henv hC [] [(0,.p (.str s)),(1,.p (.str sub)),(7,.p (.int .i64 (vi1+(1:Int))))] [] [i64ok (vi1+(1:Int))] (by kernel_rfl) (by kernel_rfl) ⟨hob,trivial⟩ (fun s1 hs1=>?_)
    exact ⟨f1,_,Nat.lt_succ_self f1,⟨s,sub,vi1+(1:Int),rfl,h⟩,Sub.trans hs1 (Sub_view hC [] (by kernel_rfl) (by kernel_rfl) (by kernel_rfl))⟩
  .have h:=ite_f h hb
   refine T_exitp (p:=[1,0,1,0,0,0,1,1]) 0 (by kernel_rfl) ?_
   refine then_exit ?_
   refine then_exit ?_
   refine inblock_hit ?_
   refine (T.weaken ?_ (Sub.refl _):T Tryz.prog C (at_ cIndex [1,1]) _ _)
   refine T_seqp (p:=[1,1]) (by kernel_rfl) ?_
   refine T_reg henv hC [] [(6,.p (.int .i64 (-1:Int)))] [] [] (by kernel_rfl) (by kernel_rfl) trivial (fun s1 hs1=>?_)
   refine (T.weaken ?_ hs1:T Tryz.prog C (at_ cIndex [1,1,1]) _ _)
   refine T_retp (p:=[1,1,1]) (by kernel_rfl) ?_
   have h:=Option.some.inj h; subst h
   exact ⟨mkS [(6,.p (.int .i64 (-1:Int)))] [],(Sub.refl _),by kernel_rfl⟩
theorem fn_Index (fuel:Nat) (s sub:List UInt8) (from_ res:Int) (h:(∃ M vs,ARels γ0 M [.p (.str s),.p (.str sub),.p (.int .i64 from_)] vs)->FIndex fuel s sub from_=some res):FnP Tryz.prog 22 [.p (.str s),.p (.str sub),.p (.int .i64 from_)] (.p (.int .i64 res)):=
 FnP_lift (fn:=Tryz.f22) (by kernel_rfl) (by kernel_rfl) fun M vs hvs C hC0=>have hC:CtxOk C 28 []:=⟨hC0.nt.trans (by kernel_rfl),hC0.fx⟩; T.weaken (TIndex fuel s sub from_ res (h ⟨M,vs,hvs⟩) C hC) (sinit_sub hC (by kernel_rfl) (by kernel_rfl))
def idx (sub:List UInt8):List UInt8->Nat->Int
 | [],i=>if sub.isPrefixOf [] then i else -1
 | c::r,i=>if sub.isPrefixOf (c::r) then i else idx sub r (i+1)
def indexS (s sub:List UInt8) (at0:Int):Int:=idx sub (s.drop at0.toNat) at0.toNat
abbrev indexok (s sub:List UInt8) (at0:Int):Prop:=0<=at0/\at0<=s.length/\s.length+sub.length<=1000000000
theorem prefix_take {sub s:List UInt8}:(s.take sub.length==sub)=sub.isPrefixOf s:=by
 rw [Bool.eq_iff_iff,beq_iff_eq,List.isPrefixOf_iff_prefix,List.prefix_iff_eq_take]
 exact ⟨fun h=>h.symm,fun h=>h.symm⟩
theorem BIndex_eq (fuel:Nat) (s sub:List UInt8) (hs:s.length+sub.length<=1000000000):∀ (f i:Nat),s.length+1 < f+i->i<=s.length+1->
 BIndex_1 fuel f s sub (i:Int)=some (if i<=s.length then idx sub (s.drop i) i else -1):=by
 intro f
 induction f with
 | zero=>intro i h1 h2; omega
 | succ f ih=>
  intro i h1 h2
  rw [BIndex_1,if_pos (ok64 (by omega) (by omega))]
  by_cases h:i+sub.length<=s.length
  .rw [if_pos (by simp; omega),if_pos ⟨ok64 (by omega) (by omega),by omega,by omega,by omega⟩]
   have e1:((i:Int)+(sub.length:Int)).toNat=i+sub.length:=by omega
   rw [e1,Int.toNat_natCast,List.drop_take]
   have e2:i+sub.length - i=sub.length:=by omega
   rw [e2,prefix_take,if_pos (by omega:i<=s.length)]
   cases hd:s.drop i with
   | nil=>
    have:s.length<=i:=by have:=congrArg List.length hd; simp at this; omega
    have:sub=[]:=List.length_eq_zero_iff.1 (by omega)
    subst this
    rw [idx]; rfl
   | cons c r=>
    have hr:s.drop (i+1)=r:=by
     have:(s.drop i).drop 1=r:=by rw [hd]; rfl
     simpa [List.drop_drop] using this
    have hlen:i < s.length:=by have:=congrArg List.length hd; simp at this; omega
    rw [idx]
    split
    .rfl
    .rw [if_pos (ok64 (by omega) (by omega))]
     have:=ih (i+1) (by omega) (by omega)
     rw [if_pos (by omega),hr] at this
     exact this
  .rw [if_neg (by simp; omega)]
   have none:∀ (l:List UInt8) (k:Nat),l.length < sub.length->idx sub l k=-1:=by
    intro l
    induction l with
    | nil=>
     intro k hk
     rw [idx,if_neg]; intro hp
     have:=(List.isPrefixOf_iff_prefix.1 hp).length_le
     simp at this; simp [this] at hk
    | cons c r ih2=>
     intro k hk
     rw [idx,if_neg,ih2 _ (by simp at hk; omega)]
     intro hp
     have:=(List.isPrefixOf_iff_prefix.1 hp).length_le
     omega
   by_cases hi:i<=s.length
   .rw [if_pos hi,none _ _ (by rw [List.length_drop]; omega)]
   .rw [if_neg hi]
theorem Index_eq (s sub:List UInt8) (a:Int) (h:indexok s sub a):FIndex 1000000002 s sub a=some (indexS s sub a):=by
 obtain ⟨h1,h2,h3⟩:=h
 obtain ⟨i,rfl⟩:=Int.eq_ofNat_of_zero_le h1
 have:=BIndex_eq 1000000002 s sub h3 1000000002 i (by omega) (by omega)
 rw [if_pos (by omega)] at this
 exact this
def sp_Index:List AV->Option (AV×Option Prop)
 | [.p (.str s),.p (.str sub),.p (.int .i64 a)]=>some (.p (.int .i64 (indexS s sub a)),some (indexok s sub a))
 | _=>none
theorem ok_Index:SpecOk Tryz.prog 22 sp_Index:=by
 intro zs r ok he hok
 unfold sp_Index at he
 split at he
 .cases he; exact ⟨by kernel_rfl,fn_Index 1000000002 _ _ _ _ fun _=>Index_eq _ _ _ hok⟩
 .cases he
end Go.Proofs.YtoanepondbagcaaGreatDoor
namespace Go.Am
open Go Go.RowKit
variable {P:Program} {C C':Ctx} {s s':S} {a a':Act} {w w' w2:World} {γ γ':Nat->Option G} {M M':Mem}
theorem StG.reroot (h:StG C γ M s a w) (e0:C'.w0=w2) (eM:C'.M0=M) (hown:∀ id g b,s.ob id≠none->γ id=some g->g.blk=some b->C'.own b/\w2.heap[b]?=w.heap[b]?)
 (hsz:w.heap.size<=w2.heap.size) (hmem:MOk M w2) (ht:a'.tmps=a.tmps) (hd:a'.defers=C'.dl) (hnt:C'.nt=C.nt) (hg:GLe C'.g0 γ) (htab:TabC C'):StG C' γ M s a' w2:=by
 refine ⟨fun t=>by rw [ht]; exact h.sl t,fun id o ho=>(h.ob id o ho).keep (GLe.refl γ) (MLe.refl M) fun g b h1 h2=>⟨(hown id g b (by rw [ho]; simp) h1 h2).2,rfl⟩,h.us,h.sep,
  fun id g b h1 h2 h3=>⟨.inr (hown id g b h1 h2 h3).1,Nat.lt_of_lt_of_le (h.lo id g b h1 h2 h3).2 hsz⟩,hmem,by rw [eM]; exact MLe.refl M,fun _ _ _=>by rw [eM],
  ⟨by rw [e0],by rw [e0],by rw [e0],by rw [e0]; exact Nat.le_refl _,fun _ _ _=>by rw [e0],htab⟩,hd,by rw [ht,hnt]; exact h.nt,hg⟩
theorem MOk.none_of {b q:Nat} (h:MOk M w) (hb:w.cell? ⟨b,q,none⟩=none):M b q=none:=by
 cases hm:M b q with
 | none=>rfl
 | some v=>have:=h b q v hm; rw [hb] at this; cases this
theorem MOk.put {l:Nat} {o:Obj} (h:MOk M w) (hn:∀ q,M l q=none):MOk M (w.putObj l o):=by
 refine ⟨?_,h.good⟩
 intro b q v hv
 have hb:b≠l:=by rintro rfl; rw [hn] at hv; cases hv
 have h1:=h b q v hv
 unfold World.cell? at *
 rw [World.putObj_heap_other hb]; exact h1
theorem MOk.dfr {b q:Nat} {r:Option (List Deferred)} (h:MOk M w) (hb:w.heap[b]?=some (.deferred r)):M b q=none:=by
 refine h.none_of ?_
 unfold World.cell?
 rw [hb]
abbrev markOf (D:Nat):Deferred:={ target:=.collected D,args:=#[] }
theorem wpIn_rangeFunc_st {g:Operand} {ps:Array Tmp} {assign body:Code} {Q:Exit->Act->World->Prop} {gf:FuncId} {lb:Array Value} (hg:a.eval g=.func (.func gf) #[] lb) (eg:callable P gf=true)
 (h:∀ (fn:FuncId) (mkR:LoopState->Option Code->Loop),mkR=(fun st pe=>{ state:=st,pending:=pe,fn,tmps:=a.tmps,params:=ps,assign,body,defers:=w.heap.size })->
  Calls P gf (#[.func (.yield (w.heap.size+1)) #[] #[]]++lb) ((w.alloc (.deferred (some []))).alloc (.loop (mkR .ready none))) fun e W2=>(∃ v,e=.returned v)/\
   ((W2.heap[w.heap.size+1]?=some (.loop (mkR .ready none))/\Q .normal { a with defers:=markOf w.heap.size::a.defers } (W2.putObj (w.heap.size+1) (.loop (mkR .exhausted none))))\/
    (∃ c,W2.heap[w.heap.size+1]?=some (.loop (mkR .done (some c)))/\c.wpIn (FW none) 0 P Q { a with defers:=markOf w.heap.size::a.defers } (W2.putObj (w.heap.size+1) (.loop (mkR .exhausted (some c))))))):
 (Code.rangeFunc g ps assign body).wpIn (FW none) 0 P Q a w:=by
 refine wpIn_rangeFunc fun fn _=>?_
 obtain ⟨mkR,hR⟩:∃ mkR:LoopState->Option Code->Loop,mkR=fun st pe=>{ state:=st,pending:=pe,fn,tmps:=a.tmps,params:=ps,assign,body,defers:=w.heap.size }:=⟨_,rfl⟩
 obtain ⟨W1,hW1⟩:∃ W1,(w.alloc (.deferred (some []))).alloc (.loop (mkR .ready none))=W1:=⟨_,rfl⟩
 have hc:=h fn mkR hR
 rw [hW1] at hc
 refine ⟨w.heap.size+1,[markOf w.heap.size],W1,{ target:=.fn (.func gf) lb,args:=#[.func (.yield (w.heap.size+1)) #[] #[]] },W1,gf,
  #[.func (.yield (w.heap.size+1)) #[] #[]]++lb,W1,?_,?_,fun _ _=>trivial,?_,(fun h=>nomatch h),?_⟩
 .rw [<-hW1,hR]; exact run_enterLoop_outer _ _ _ _ _
 .simp only [resolve,hg]
  simp [go_sem]
 .simp [invoke,go_sem,run_callFunc eg]
 .refine callsIn_FW.2 (hc.mono ?_)
  rintro e W2 ⟨⟨v,rfl⟩,⟨hl,hq⟩ | ⟨c,hl,hq⟩⟩
  .refine ⟨none,_,?_,hq⟩
   have:=run_endLoop (P:=P) hl (by rw [hR]; simp)
   rw [hR] at this ⊢; exact this
  .refine ⟨some c,_,?_,hq⟩
   have:=run_endLoop (P:=P) hl (by rw [hR]; simp)
   rw [hR] at this ⊢; exact this
def rndPost (l:Nat) (r:Loop) (R:Option Code->World->Prop):Exit->Act->World->Prop
 | .normal,_,W=>W.heap[l]?=some (.loop { r with state:=.busy })/\R none W
 | .ret,_,W=>W.heap[l]?=some (.loop { r with state:=.busy })/\R (some .ret) W
 | .exit id,_,W=>W.heap[l]?=some (.loop { r with state:=.busy })/\R (some (.exit id)) W
 | _,_,_=>False
theorem round_st {l:Nat} {r:Loop} {tm:Array Value} {W:World} {R:Option Code->World->Prop} (hr:r.state=.ready)
 (h:r.assign.wpIn (FW (some l)) 0 P (Exit.then (fun a1 W1=>W1.heap[l]?=some (.loop r)/\r.body.wpIn (FW (some l)) 0 P (rndPost l r R) a1 (W1.putObj l (.loop { r with state:=.busy }))) (fun _ _ _=>False)) { tmps:=tm,defers:=[] } W):
 RoundIn (FW none) 0 P l r.fn tm r.assign r.body W fun e W'=>∃ (jump:Option Code) (W3:World),e=.returned (.bool jump.isNone)/\
  W'=W3.putObj l (.loop { r with state:=if jump.isNone then .ready else .done,pending:=jump })/\R jump W3:=by
 refine roundIn_of_wpIn (F:=FW none) trivial ?_
 refine wpIn_mono (F:=FW (some l)) h fun e a1 W1 he=>?_
 cases e with
 | normal=>
  obtain ⟨hl,hb⟩:=he
  refine ⟨_,run_beginRound hl hr,wpIn_mono (F:=FW (some l)) hb fun e2 a2 W2 h2=>?_⟩
  cases e2 with
  | normal=>exact ⟨_,_,run_endRound none h2.1,none,W2,rfl,rfl,h2.2⟩
  | ret=>exact ⟨_,_,run_endRound (some .ret) h2.1,some .ret,W2,rfl,rfl,h2.2⟩
  | exit id=>exact ⟨_,_,run_endRound (some (.exit id)) h2.1,some (.exit id),W2,rfl,rfl,h2.2⟩
  | goto t=>exact h2.elim
  | panic ch=>exact h2.elim
  | outgrown=>exact h2.elim
 | exit id=>exact he
 | goto l=>exact he
 | ret=>exact he
 | panic ch=>exact he
 | outgrown=>exact he
theorem wpIn_yield {dst:Option Tmp} {fop:Operand} {args:Array Operand} {ts:Array TypeId} {type:TypeId} {pos:String} {after:Array Edge} {guard:Option (Nat×Bool)} {l:Nat} {r:Loop} {next:Act->World->Prop} {Q:Exit->Act->World->Prop}
 (hf:a.eval fop=.func (.yield l) #[] #[]) (hl:w.heap[l]?=some (.loop r)) (hn:args.size=r.params.size)
 (h:RoundIn (FW none) 0 P l r.fn ((r.params.zip (args.map a.eval)).foldl (fun tmps (t,a)=>tmps.setIfInBounds t a) r.tmps) r.assign r.body w fun e W'=>∃ v,e=.returned v/\next (a.put dst v) W'):
 (⟨dst,.call ⟨.value fop,args,ts⟩,type,pos,after,guard⟩:Oper).wpIn (FW none) 0 P a w next Q:=by
 have hrun:(execOp a.eval ⟨dst,.call ⟨.value fop,args,ts⟩,type,pos,after,guard⟩).run P w=.ok (.round l r.fn ((r.params.zip (args.map a.eval)).foldl (fun tmps (t,a)=>tmps.setIfInBounds t a) r.tmps) r.assign r.body) w:=by
  simp only [execOp,resolve,hf,Deferred.ofValue,Sem.run_bind,Sem.run_pure,Result.andThen_ok,invoke]
  have:=run_yield (P:=P) (args:=args.map a.eval) hl (by simpa using hn)
  simpa using this
 refine wpIn_of hrun (fun _ e=>by cases e) ⟨fun h=>(by cases h),h.mono fun e W' ⟨v,he,hv⟩=>?_⟩
 subst he
 exact hv
end Go.Am
namespace Go.Am
open Go Go.RowKit
variable {P:Program} {C C':Ctx} {s s':S} {a a':Act} {w w' w1 w2:World} {γ γ' γ1 γ2:Nat->Option G} {M M' M1 M2:Mem} {o o' o1 o2:List (Nat×AObj)}
structure Hold (γ:Nat->Option G) (M:Mem) (w:World) (o:List (Nat×AObj)):Prop where
 ob:∀ id x,lookO id o=some x->OM γ M w id x
 us:∀ id,lookO id o=none->γ id=none
 sep:∀ id id' g g' b,lookO id o≠none->lookO id' o≠none->γ id=some g->γ id'=some g'->g.blk=some b->g'.blk=some b->id=id'
 lt:∀ id g b,lookO id o≠none->γ id=some g->g.blk=some b->b < w.heap.size
 mem:HOk γ o M w
structure Chg (γ:Nat->Option G) (o:List (Nat×AObj)) (M:Mem) (w:World) (γ':Nat->Option G) (o':List (Nat×AObj)) (M':Mem) (w':World):Prop where
 size:w.heap.size<=w'.heap.size
 os:w'.os=w.os
 tape:w'.tape=w.tape
 output:w'.output=w.output
 le:MLe M M'
 old:∀ b,b < w.heap.size->¬ Handed γ o b->w'.heap[b]?=w.heap[b]?/\M' b=M b
 new:∀ b,Handed γ' o' b->w.heap.size<=b\/Handed γ o b
theorem HOk.chg (h:HOk γ o M w) (hm:MOk M' w') (hc:Chg γ o M w γ' o' M' w'):HOk γ' o' M' w':=by
 refine ⟨⟨hm,h.tabs.keep fun b hb ht=>(hc.old b hb fun hh=>h.hand b hh ht).1⟩,fun b hb ht=>?_⟩
 rcases hc.new b hb with h1 | h1
 .have:=h.tabs.lt ht; omega
 .exact h.hand b h1 ht
theorem Chg.refl:Chg γ o M w γ o M w:=⟨Nat.le_refl _,rfl,rfl,rfl,MLe.refl M,fun _ _ _=>⟨rfl,rfl⟩,fun _ h=>.inr h⟩
theorem Chg.trans (h:Chg γ o M w γ1 o1 M1 w1) (k:Chg γ1 o1 M1 w1 γ2 o2 M2 w2):Chg γ o M w γ2 o2 M2 w2:=by
 have hn:∀ b,b < w.heap.size->¬ Handed γ o b->¬ Handed γ1 o1 b:=fun b hb hh h2=>(h.new b h2).elim (fun h3=>by omega) hh
 refine ⟨Nat.le_trans h.size k.size,k.os.trans h.os,k.tape.trans h.tape,k.output.trans h.output,h.le.trans k.le,fun b hb hh=>?_,fun b hb=>?_⟩
 .have h1:=h.old b hb hh
  have h2:=k.old b (Nat.lt_of_lt_of_le hb h.size) (hn b hb hh)
  exact ⟨h2.1.trans h1.1,h2.2.trans h1.2⟩
 .rcases k.new b hb with h1 | h1
  .exact .inl (Nat.le_trans h.size h1)
  .exact h.new b h1
def ctxOf (w:World) (M:Mem) (γ:Nat->Option G) (o:List (Nat×AObj)) (kept:List Nat) (nt:Nat) (rd:Option Nat) (dl:List Deferred):Ctx:=
 { w0:=w,M0:=M,own:=Handed γ o,nt:=nt,g0:=fun i=>match elemB i kept with | true=>γ i | false=>none,rd:=rd,dl:=dl }
theorem ctxOf_ok {kept:List Nat} {nt:Nat} {rd:Option Nat} {dl:List Deferred}:CtxOk (ctxOf w M γ o kept nt rd dl) nt kept:=by
 refine ⟨rfl,fun i g hg=>?_⟩
 simp only [ctxOf] at hg
 split at hg
 .rename_i he; exact elemB_spec.1 he
 .cases hg
theorem Hold.lend (h:Hold γ M w o) {l:List (Nat×AV)} {kept:List Nat} {nt:Nat} {rd:Option Nat} {dl:List Deferred} (hsl:∀ t,ARel γ M (look t .any l) (a.tmps.getD t undef)) (hd:a.defers=dl) (hn:a.tmps.size=nt):
 StG (ctxOf w M γ o kept nt rd dl) γ M (mkS l o) a w:=by
 refine ⟨hsl,h.ob,fun id hu=>h.us id ?_,h.sep,fun id g b h1 h2 h3=>⟨.inr ⟨id,g,h1,h2,h3⟩,h.lt id g b h1 h2 h3⟩,h.mem.toMOk,MLe.refl M,fun _ _ _=>rfl,⟨rfl,rfl,rfl,Nat.le_refl _,fun _ _ _=>rfl,h.mem.tabs,h.mem.hand⟩,hd,hn,fun i g hg=>?_⟩
 .have hu:(lookO id o).isSome=false:=hu
  cases hl:lookO id o with
  | none=>rfl
  | some _=>rw [hl] at hu; cases hu
 .simp only [ctxOf] at hg
  split at hg
  .exact hg
  .cases hg
theorem Hold.back {l:List (Nat×AV)} {kept:List Nat} {nt:Nat} {rd:Option Nat} {dl:List Deferred} (h:StG (ctxOf w M γ o kept nt rd dl) γ' M' (mkS l o') a w'):
 Hold γ' M' w' o'/\Chg γ o M w γ' o' M' w'/\(∀ i ∈ kept,∀ g,γ i=some g->γ' i=some g)/\(∀ t,ARel γ' M' (look t .any l) (a.tmps.getD t undef))/\a.defers=dl/\a.tmps.size=nt:=by
 refine ⟨⟨h.ob,fun id hu=>h.us id ?_,h.sep,fun id g b h1 h2 h3=>(h.lo id g b h1 h2 h3).2,⟨h.wok,fun b ⟨id,g,h1,h2,h3⟩=>h.notab h1 h2 h3⟩⟩,⟨h.fr.size,h.fr.os,h.fr.tape,h.fr.output,h.le,fun b hb hh=>⟨h.fr.block b hb hh,h.new b hb hh⟩,fun b ⟨id,g,h1,h2,h3⟩=>(h.lo id g b h1 h2 h3).1⟩,fun i hi g hg=>h.gl i g ?_,h.sl,h.df,h.nt⟩
 .show (lookO id o').isSome=false
  rw [hu]; rfl
 .simp only [ctxOf]
  rw [elemB_spec.2 hi]; exact hg
theorem heap_push_lt {w:World} {x:Obj} {b:Nat} (hb:b < w.heap.size):(w.alloc x).heap[b]?=w.heap[b]?:=by
 show (w.heap.push x)[b]?=_
 rw [Array.getElem?_push_lt hb,Array.getElem?_eq_getElem hb]
theorem Hold.addraw (h:Hold γ M w o) {id:Nat} (hid:lookO id o=none) (x:Obj):
 Hold (upd γ id (some (.cell w.heap.size))) M (w.alloc x) ((id,.raw x)::o)/\Chg γ o M w (upd γ id (some (.cell w.heap.size))) ((id,.raw x)::o) M (w.alloc x):=by
 have hγ:GLe γ (upd γ id (some (.cell w.heap.size))):=by
  intro i g' hi
  by_cases e:i=id
  .subst e; rw [h.us i hid] at hi; cases hi
  .rw [upd_ne _ _ e]; exact hi
 have hl:∀ {i},i≠id->lookO i ((id,.raw x)::o)=lookO i o:=by
  intro i hi
  show (match Nat.beq i id with | true=>some (AObj.raw x) | false=>lookO i o)=_
  cases hb:Nat.beq i id with
  | true=>exact absurd (Nat.eq_of_beq_eq_true hb) hi
  | false=>rfl
 have hsame:lookO id ((id,AObj.raw x)::o)=some (.raw x):=by
  show (match Nat.beq id id with | true=>some (AObj.raw x) | false=>lookO id o)=_
  rw [Nat.beq_refl]
 have hg:∀ {i g b},i≠id->lookO i o≠none->γ i=some g->g.blk=some b->b < w.heap.size:=fun _ h1 h2 h3=>h.lt _ _ _ h1 h2 h3
 have hC:Chg γ o M w (upd γ id (some (.cell w.heap.size))) ((id,.raw x)::o) M (w.alloc x):=by
  refine ⟨by simp,rfl,rfl,rfl,MLe.refl M,fun b hb _=>⟨heap_push_lt hb,rfl⟩,fun b ⟨i,g,h1,h2,h3⟩=>?_⟩
  by_cases ei:i=id
  .subst ei
   rw [upd_same] at h2; cases h2; cases h3; exact .inl (Nat.le_refl _)
  .rw [upd_ne _ _ ei] at h2
   exact .inr ⟨i,g,by rw [hl ei] at h1; exact h1,h2,h3⟩
 refine ⟨⟨fun i y hi=>?_,fun i hi=>?_,fun i j g g' b hi hj h1 h2 h3 h4=>?_,fun i g b hi h1 h2=>?_,h.mem.chg (h.mem.alloc _) hC⟩,hC⟩
 .by_cases e:i=id
  .subst e
   rw [hsame] at hi; cases hi
   exact ⟨w.heap.size,upd_same _ _ _,heap_alloc_new w _,h.mem.fresh (Nat.le_refl _)⟩
  .rw [hl e] at hi
   exact (h.ob i y hi).keep hγ (MLe.refl M) fun g b h1 h2=>⟨heap_push_lt (h.lt i g b (by rw [hi]; simp) h1 h2),rfl⟩
 .by_cases e:i=id
  .subst e; rw [hsame] at hi; cases hi
  .rw [hl e] at hi; rw [upd_ne _ _ e]; exact h.us i hi
 .by_cases ei:i=id
  .subst ei
   rw [upd_same] at h1; cases h1; cases h3
   by_cases ej:j=i
   .exact ej.symm
   .rw [upd_ne _ _ ej] at h2
    have:=h.lt j g' _ (by rw [hl ej] at hj; exact hj) h2 h4
    omega
  .rw [upd_ne _ _ ei] at h1
   by_cases ej:j=id
   .subst ej
    rw [upd_same] at h2; cases h2; cases h4
    have:=h.lt i g _ (by rw [hl ei] at hi; exact hi) h1 h3
    omega
   .rw [upd_ne _ _ ej] at h2
    exact h.sep i j g g' b (by rw [hl ei] at hi; exact hi) (by rw [hl ej] at hj; exact hj) h1 h2 h3 h4
 .by_cases ei:i=id
  .subst ei
   rw [upd_same] at h1; cases h1; cases h2; simp
  .rw [upd_ne _ _ ei] at h1
   have:=h.lt i g b (by rw [hl ei] at hi; exact hi) h1 h2
   simp; omega
theorem Hold.setraw (h:Hold γ M w o) {id b:Nat} {x y:Obj} (hid:lookO id o=some (.raw x)) (hb:γ id=some (.cell b)) (hy:lookO id o'=some (.raw y)) (hne:∀ i,i≠id->lookO i o'=lookO i o):
 Hold γ M (w.putObj b y) o'/\Chg γ o M w γ o' M (w.putObj b y):=by
 obtain ⟨b',hg',hx,hn⟩:=h.ob id _ hid
 rw [hb] at hg'; cases hg'
 have hlt:b < w.heap.size:=h.lt id _ b (by rw [hid]; simp) hb rfl
 have hnn:∀ i,lookO i o'≠none->lookO i o≠none:=by
  intro i hi
  by_cases e:i=id
  .subst e; rw [hid]; simp
  .rw [<-hne i e]; exact hi
 have hC:Chg γ o M w γ o' M (w.putObj b y):=by
  refine ⟨by simp,rfl,rfl,rfl,MLe.refl M,fun c hc hh=>⟨World.putObj_heap_other ?_,rfl⟩,fun c ⟨i,g,h1,h2,h3⟩=>.inr ⟨i,g,hnn i h1,h2,h3⟩⟩
  rintro rfl
  exact hh ⟨id,_,by rw [hid]; simp,hb,rfl⟩
 refine ⟨⟨fun i z hi=>?_,fun i hi=>?_,fun i j g g' c hi hj h1 h2 h3 h4=>h.sep i j g g' c (hnn i hi) (hnn j hj) h1 h2 h3 h4,fun i g c hi h1 h2=>?_,h.mem.chg (h.mem.put hn) hC⟩,hC⟩
 .by_cases e:i=id
  .subst e
   rw [hy] at hi; cases hi
   exact ⟨b,hb,World.putObj_heap_same hlt,hn⟩
  .rw [hne i e] at hi
   refine (h.ob i z hi).keep (GLe.refl γ) (MLe.refl M) fun g c h1 h2=>⟨World.putObj_heap_other ?_,rfl⟩
   rintro rfl
   exact e (h.sep i id g _ c (by rw [hi]; simp) (by rw [hid]; simp) h1 hb h2 rfl)
 .by_cases e:i=id
  .subst e; rw [hy] at hi; cases hi
  .rw [hne i e] at hi; exact h.us i hi
 .have:=h.lt i g c (hnn i hi) h1 h2
  rw [World.putObj_size]; exact this
def cutLO (fx:List Nat) (c:Cut) (s:S):Option (List (Nat×AV)×List (Nat×AObj)):=
 match resolveO s [] (realO c.own) with
 | some rn=>match cutOk fx rn with
  | true=>match cutSlots s rn (fwOf rn) (realO c.own) c.slots with
   | some l=>match buildO s rn (fwOf rn) (realO c.own) c.own rn (realO c.own) with
    | some o=>some (l,o)
    | none=>none
   | none=>none
  | false=>none
 | none=>none
theorem cutLO_cutS {fx:List Nat} {c:Cut} {s:S} {l:List (Nat×AV)} {o:List (Nat×AObj)} (h:cutLO fx c s=some (l,o)):cutS fx c s=some (mkS l o):=by
 unfold cutLO at h
 unfold cutS
 split at h
 .rename_i rn hrn
  rw [hrn]; dsimp only
  split at h
  .rename_i hok
   rw [hok]; dsimp only
   split at h
   .rename_i l' hl
    rw [hl]; dsimp only
    split at h
    .rename_i o' ho
     rw [ho]; cases h; rfl
    .cases h
   .cases h
  .cases h
 .cases h
theorem cutSlots_keys {s:S} {rn fw:Rn} {own:List Own}:∀ {ts:List Nat} {l:List (Nat×AV)},cutSlots s rn fw own ts=some l->l.map (·.1)=ts
 | [],l,h=>by cases h; rfl
 | t::r,l,h=>by
  simp only [cutSlots] at h
  split at h
  .split at h
   .rename_i l' hl
    cases h
    simp [cutSlots_keys hl]
   .cases h
  .cases h
theorem cutLO_keys {fx:List Nat} {c:Cut} {s:S} {l:List (Nat×AV)} {o:List (Nat×AObj)} (h:cutLO fx c s=some (l,o)):l.map (·.1)=c.slots:=by
 unfold cutLO at h
 split at h
 .split at h
  .split at h
   .rename_i l' hl
    split at h
    .cases h; exact cutSlots_keys hl
    .cases h
   .cases h
  .cases h
 .cases h
def tagOf:Exit->AV
 | .normal=>.p (.int .i64 (-1))
 | .ret=>.p (.int .i64 (-2))
 | .exit i=>.p (.int .i64 (i:Int))
 | _=>.any
def kTag (fx:List Nat) (c:Cut):K:=fun e s=>
 match cutLO fx c s with
 | some (l,o)=>some (.tup (tagOf e::l.map (·.2)),o)
 | none=>none
theorem tagOf_normal {e:Exit} (h:tagOf e=.p (.int .i64 (-1))):e=.normal:=by
 cases e with
 | normal=>rfl
 | exit i=>simp [tagOf] at h
 | _=>simp [tagOf] at h
theorem tagOf_exit {e:Exit} {i:Nat} (h:tagOf e=.p (.int .i64 (i:Int))):e=.exit i:=by
 cases e with
 | normal=>simp [tagOf] at h
 | ret=>simp [tagOf] at h
 | exit j => simp [tagOf] at h; have : j = i := by omega
             rw [this]
 | _=>simp [tagOf] at h
theorem zip_keys {α β:Type}:∀ {l:List (α×β)},List.zip (l.map (·.1)) (l.map (·.2))=l
 | []=>rfl
 | p::r=>by rw [List.map_cons,List.map_cons,List.zip_cons_cons,zip_keys]
theorem kTag_get {nt:Nat} {fx:List Nat} (hC:CtxOk C nt fx) {c:Cut} {e:Exit} {s:S} {t:AV} {xs:List AV} {o:List (Nat×AObj)} (h:kTag fx c e s=some (.tup (t::xs),o)):tagOf e=t/\Sub C s (mkS (List.zip c.slots xs) o):=by
 unfold kTag at h
 split at h
 .rename_i l o' hl
  cases h
  rw [<-cutLO_keys hl,zip_keys]
  exact ⟨rfl,cutS_sub hC (cutLO_cutS hl)⟩
 .cases h
def agNone:List Nat->Code->S->K->Option Ans:=fun _ _ _ _=>none
theorem piece {G:Cfg} (hG:CfgOk G P C) {c:Code} {s:S} {k:K} {r:Ans} (h:runC G agNone [] c s k=some r):T P C c s (fun e s'=>k e s'=some r):=
 runC_sound (again:=agNone) hG (fun _ _ _ _ _ h _=>by cases h) c [] s k _ h (fun _ _ h=>h)
noncomputable def kNext (G:Cfg) (c:Code) (k:K):K:=fun e s=>
 match e with
 | .normal=>runC G agNone [] c s k
 | e=>k e s
theorem wpIn_piece {G:Cfg} (hG:CfgOk G P C) {c:Code} {s:S} {k:K} {r:Ans} {R:Exit->Act->World->Prop} (h:runC G agNone [] c s k=some r) (hs:St C s a w) (hk:∀ e s' a' w',k e s'=some r->St C s' a' w'->R e a' w'):c.wpIn (FW C.rd) 0 P R a w:=
 wpIn_mono (piece hG h a w hs) fun e a' w' ⟨s',h1,h2⟩=>hk e s' a' w' h1 h2
theorem ARel.nil_list {γ:Nat->Option G} {M:Mem} {v:Value} {k:Nat} {R:Rows} (h0:R.n=0) (h:ARel γ M (.p .nil) v):ARel γ M (.p (.list k R)) v:=by
 cases h with | p _ _ h=>cases h; exact .p _ _ (.listNil k R h0)
theorem ARel.tup_head {γ:Nat->Option G} {M:Mem} {v:Value} {x y:AV} {r:List AV} (k:∀ v,ARel γ M x v->ARel γ M y v) (h:ARel γ M (.tup (x::r)) v):ARel γ M (.tup (y::r)) v:=by
 obtain ⟨vs,rfl,hs,hr⟩:=h.tup_inv
 refine .tup _ _ (by simpa using hs) fun i hi=>?_
 cases i with
 | zero=>exact k _ (hr 0 (by simp))
 | succ i=>exact hr (i+1) (by simpa using hi)
end Go.Am
namespace Go.Proofs.YtoanepondbagcaaGreatDoor
open Go Go.Am
set_option linter.unusedVariables false
def inName (c:UInt8):Bool:=decide (33<=c.toNat)&&decide (c.toNat<=126)
def oneF (s:List UInt8):(List UInt8×List UInt8)×Bool:=(((cutS s 58).1,trimBl (cutS s 58).2.1),((cutS s 58).2.2&&(cutS s 58).1.all inName)&&((cutS s 58).1 != []))
noncomputable def cfone:Code:=bodyOf Tryz.f79
noncomputable def Gfone:Cfg:=⟨Tryz.prog,mkEnv [(53,sp_cut),(119,sp_trim2)],mkEnvR [],42,[],[([0,1,0,1,1],⟨[2,4,5,6,15,16],[⟨.slot 2,2,.cells []⟩]⟩),([1,1,1,0,0,1,0,1,1],⟨[2,4,5,6,15,16],[⟨.slot 2,2,.cells []⟩]⟩)],[]⟩
noncomputable def Bfone_1 (F f1:Nat) (vs1 vs2:List UInt8) (vc3:Bool) (vi4 vi5:Int):Option Ans:=runR Gfone cfone (kP Tryz.prog Tryz.f79.results.toList) F [] [1,1,0,1,0] f1 [(2,.ref 2 0),(4,.p (.str vs1)),(5,.p (.str vs2)),(6,.p (.bool vc3)),(15,.p (.int .i64 vi4)),(16,.p (.int .i64 vi5))] [(2,.cells [.p (.str ([]:List UInt8)),.p (.str ([]:List UInt8))])]
noncomputable def Bfone_2 (F f1:Nat) (vs1 vs2:List UInt8) (vc6:Bool) (vi4 vi5:Int):Option Ans:=runB Gfone cfone (kP Tryz.prog Tryz.f79.results.toList) F [f1] [1,1,0,1,0,0,1,1,1] [(2,.ref 2 0),(4,.p (.str vs1)),(5,.p (.str vs2)),(6,.p (.bool vc6)),(15,.p (.int .i64 vi4)),(16,.p (.int .i64 vi5))] [(2,.cells [.p (.str ([]:List UInt8)),.p (.str ([]:List UInt8))])]
noncomputable def Ffone (F:Nat) (s:List UInt8):Option Ans:=runF Gfone Tryz.f79 F [.p (.str s)]
theorem Bfone_1_eq (F f1:Nat) (vs1 vs2:List UInt8) (vc3:Bool) (vi4 vi5:Int):Bfone_1 F (f1+1) vs1 vs2 vc3 vi4 vi5=cond (decide (vi5 < vi4)) (need (vc3=true->0<=vi5/\vi5 < (vs1.length:Int)) (need ((vc3&&(decide (((vs1.getD (vi5).toNat 0).toNat:Int)>=(33:Int))))=true->0<=vi5/\vi5 < (vs1.length:Int)) (Bfone_2 F f1 vs1 vs2 ((vc3&&(decide (((vs1.getD (vi5).toNat 0).toNat:Int)>=(33:Int))))&&(decide (((vs1.getD (vi5).toNat 0).toNat:Int)<=(126:Int)))) vi4 vi5))) (need (vs2.length<=1000000) (some (.tup [.agg [.p (.str vs1),.p (.str (trimBl vs2))],.p (.bool (vc3&&(vs1 != ([]:List UInt8))))],[]))):=
 Eq.trans (show Bfone_1 F (f1+1) vs1 vs2 vc3 vi4 vi5=cond (decide (vi5 < vi4)) (need (vc3=true->vc3=true) (need (vc3=true->vc3=true) (need (vc3=true->0<=vi5/\vi5 < (vs1.length:Int)) (need (vc3=true->vc3=true) (need (vc3=true->vc3=true) (need ((vc3&&(decide (((vs1.getD (vi5).toNat 0).toNat:Int)>=(33:Int))))=true->(vc3&&(decide (((vs1.getD (vi5).toNat 0).toNat:Int)>=(33:Int))))=true) (need ((vc3&&(decide (((vs1.getD (vi5).toNat 0).toNat:Int)>=(33:Int))))=true->(vc3&&(decide (((vs1.getD (vi5).toNat 0).toNat:Int)>=(33:Int))))=true) (need ((vc3&&(decide (((vs1.getD (vi5).toNat 0).toNat:Int)>=(33:Int))))=true->0<=vi5/\vi5 < (vs1.length:Int)) (need ((vc3&&(decide (((vs1.getD (vi5).toNat 0).toNat:Int)>=(33:Int))))=true->(vc3&&(decide (((vs1.getD (vi5).toNat 0).toNat:Int)>=(33:Int))))=true) (need ((vc3&&(decide (((vs1.getD (vi5).toNat 0).toNat:Int)>=(33:Int))))=true->(vc3&&(decide (((vs1.getD (vi5).toNat 0).toNat:Int)>=(33:Int))))=true) (Bfone_2 F f1 vs1 vs2 ((vc3&&(decide (((vs1.getD (vi5).toNat 0).toNat:Int)>=(33:Int))))&&(decide (((vs1.getD (vi5).toNat 0).toNat:Int)<=(126:Int)))) vi4 vi5))))))))))) (need (vs2.length<=1000000) (need (vc3=true->vc3=true) (need (vc3=true->vc3=true) (some (.tup [.agg [.p (.str vs1),.p (.str (trimBl vs2))],.p (.bool (vc3&&(vs1 != ([]:List UInt8))))],[]))))) by kernel_rfl) (cond_congr (need_strike (show vc3=true->vc3=true from (fun q0=>q0)) (need_strike (show vc3=true->vc3=true from (fun q0=>q0)) (need_congr (need_strike (show vc3=true->vc3=true from (fun q0=>q0)) (need_strike (show vc3=true->vc3=true from (fun q0=>q0)) (need_strike (show (vc3&&(decide (((vs1.getD (vi5).toNat 0).toNat:Int)>=(33:Int))))=true->(vc3&&(decide (((vs1.getD (vi5).toNat 0).toNat:Int)>=(33:Int))))=true from (fun q0=>q0)) (need_strike (show (vc3&&(decide (((vs1.getD (vi5).toNat 0).toNat:Int)>=(33:Int))))=true->(vc3&&(decide (((vs1.getD (vi5).toNat 0).toNat:Int)>=(33:Int))))=true from (fun q0=>q0)) (need_congr (need_strike (show (vc3&&(decide (((vs1.getD (vi5).toNat 0).toNat:Int)>=(33:Int))))=true->(vc3&&(decide (((vs1.getD (vi5).toNat 0).toNat:Int)>=(33:Int))))=true from (fun q0=>q0)) (need_strike (show (vc3&&(decide (((vs1.getD (vi5).toNat 0).toNat:Int)>=(33:Int))))=true->(vc3&&(decide (((vs1.getD (vi5).toNat 0).toNat:Int)>=(33:Int))))=true from (fun q0=>q0)) (rfl))))))))))) (need_congr (need_strike (show vc3=true->vc3=true from (fun q0=>q0)) (need_strike (show vc3=true->vc3=true from (fun q0=>q0)) (rfl)))))
theorem Bfone_2_eq (F f1:Nat) (vs1 vs2:List UInt8) (vc6:Bool) (vi4 vi5:Int):Bfone_2 F f1 vs1 vs2 vc6 vi4 vi5=need (i64ok (vi5+(1:Int))) (Bfone_1 F f1 vs1 vs2 vc6 vi4 (vi5+(1:Int))):=by kernel_rfl
theorem Ffone_eq (F:Nat) (s:List UInt8):Ffone F s=need (s.length<=1000000) (Bfone_1 F F ((cutS s 58).1) ((cutS s 58).2.1) ((cutS s 58).2.2) (((cutS s 58).1).length:Int) (0:Int)):=by kernel_rfl
theorem fn_fone (F:Nat) (s:List UInt8) (r:AV) (h:(∃ M vs,ARels γ0 M [.p (.str s)] vs)->Ffone F s=some (r,[])):FnP Tryz.prog 79 [.p (.str s)] r:=
 FnP_run Gfone F rfl (EnvOk_mk (l:=[(53,sp_cut),(119,sp_trim2)]) ⟨ok_cut.any,ok_trim2.any,trivial⟩) (EnvROk_mk (l:=[]) trivial) (Checked.mixed Tryz.checked) (fn:=Tryz.f79) (by kernel_rfl) (by kernel_rfl) rfl h
theorem inName_dec (c:UInt8) (m:Bool):((m&&(decide ((c.toNat:Int)>=(33:Int))))&&(decide ((c.toNat:Int)<=(126:Int))))=(m&&inName c):=by
 unfold inName
 rw [Bool.and_assoc,show decide ((c.toNat:Int)>=(33:Int))=decide (33<=c.toNat) from decide_eq_decide.2 (by omega),show decide ((c.toNat:Int)<=(126:Int))=decide (c.toNat<=126) from decide_eq_decide.2 (by omega)]
theorem Bfone_spec (F:Nat) (a b:List UInt8) (ha:a.length<=1000000) (hb:b.length<=1000000):∀ (r:List UInt8) (f i:Nat) (m:Bool),a.drop i=r->r.length < f->i<=a.length->
 Bfone_1 F f a b m (a.length:Int) (i:Int)=some (.tup [.agg [.p (.str a),.p (.str (trimBl b))],.p (.bool ((m&&r.all inName)&&(a != [])))],[]):=by
 intro r
 induction r with
 | nil=>
  intro f i m hd hf hi
  have:i=a.length:=by have:=congrArg List.length hd; simp at this; omega
  cases f with
  | zero=>omega
  | succ f=>
   rw [Bfone_1_eq]
   refine cond_f (by simp; omega) (need_mk hb ?_)
   simp
 | cons c r ih=>
  intro f i m hd hf hi
  obtain ⟨h1,h2,h3⟩:=drop_cons hd
  cases f with
  | zero=>omega
  | succ f=>
   rw [Bfone_1_eq]
   refine cond_t (by simp; omega) (need_mk (fun _=>⟨by omega,by omega⟩) (need_mk (fun _=>⟨by omega,by omega⟩) ?_))
   rw [Int.toNat_natCast,h1,inName_dec,Bfone_2_eq]
   refine need_mk (by unfold i64ok; omega) ?_
   rw [show (i:Int)+1=((i+1:Nat):Int) by omega,ih f (i+1) _ h2 (by simp at hf; omega) (by omega),List.all_cons,Bool.and_assoc m]
theorem fone_eq (s:List UInt8) (hs:s.length<=1000000):Ffone (s.length+1) s=some (.tup [.agg [.p (.str (oneF s).1.1),.p (.str (oneF s).1.2)],.p (.bool (oneF s).2)],[]):=by
 have hl:=cutS_len s 58
 rw [Ffone_eq]
 refine need_mk hs ?_
 have:=Bfone_spec (s.length+1) (cutS s 58).1 (cutS s 58).2.1 (by omega) (by omega) (cutS s 58).1 (s.length+1) 0 (cutS s 58).2.2 rfl (by omega) (by omega)
 exact this
def sp_fone:List AV->Option (AV×Option Prop)
 | [.p (.str s)]=>some (.tup [.agg [.p (.str ((oneF s).1.1)),.p (.str ((oneF s).1.2))],.p (.bool ((oneF s).2))],some (s.length<=1000000))
 | _=>none
theorem ok_fone:SpecOk Tryz.prog 79 sp_fone:=by
 intro zs r ok he hok
 unfold sp_fone at he
 split at he
 .cases he; exact ⟨by kernel_rfl,fn_fone (_) _ _ fun hx=>fone_eq _ hok⟩
 .cases he
def lnF:List UInt8->Nat->List UInt8->List (Nat×List UInt8×Nat)
 | acc,a,[]=>if acc=[] then [] else [(a,acc,a+acc.length)]
 | acc,a,c::r=>if c=10 then (a,trimSuf acc [13],a+acc.length+1)::lnF [] (a+acc.length+1) r else lnF (acc++[c]) a r
theorem lnF_nl {q:List UInt8}:∀ {p:List UInt8} (acc:List UInt8) (a:Nat),(∀ x ∈ p,x≠10)->lnF acc a (p++10::q)=(a,trimSuf (acc++p) [13],a+(acc++p).length+1)::lnF [] (a+(acc++p).length+1) q
 | [],acc,a,_=>by rw [List.nil_append,lnF,if_pos rfl,List.append_nil]
 | c::p,acc,a,h=>by rw [List.cons_append,lnF,if_neg (h c (by simp)),lnF_nl (acc++[c]) a (fun x hx=>h x (List.mem_cons_of_mem _ hx)),List.append_assoc]; rfl
theorem lnF_end:∀ {p:List UInt8} (acc:List UInt8) (a:Nat),(∀ x ∈ p,x≠10)->lnF acc a p=if acc++p=[] then [] else [(a,acc++p,a+(acc++p).length)]
 | [],acc,a,_=>by rw [lnF,List.append_nil]
 | c::p,acc,a,h=>by rw [lnF,if_neg (h c (by simp)),lnF_end (acc++[c]) a (fun x hx=>h x (List.mem_cons_of_mem _ hx)),List.append_assoc]; rfl
theorem trimSuf_len (s p:List UInt8):(trimSuf s p).length<=s.length:=by unfold trimSuf; split <;> simp
def linesN (s:List UInt8) (a b:Nat):List (Nat×List UInt8×Nat):=lnF [] a ((s.take b).drop a)
def isBlank1:List UInt8->Bool
 | c::_=>c==32||c==9
 | []=>false
def gathS:List (Nat×List UInt8×Nat)->Int->List (List UInt8)->List (List UInt8)×Int
 | [],body,g=>(g,body)
 | (_,t,nx)::r,body,g=>if t=[] then (g,(nx:Int)) else if g≠[]/\isBlank1 t=true then gathS r body (g.set (g.length - 1) (g.getD (g.length - 1) []++t)) else gathS r body (g++[t])
def fieldsS (g:List (List UInt8)):List (List UInt8×List UInt8):=g.filterMap fun t=>if (oneF t).2=true then some (oneF t).1 else none
def splitS (s:List UInt8) (a b:Int):List (List UInt8×List UInt8)×Int:=if a < 0\/b > s.length\/a > b then ([],a) else (fieldsS (gathS (linesN s a.toNat b.toNat) b []).1,(gathS (linesN s a.toNat b.toNat) b []).2)
theorem oneF_blank {t:List UInt8} (h:isBlank1 t=true):(oneF t).2=false:=by
 cases t with
 | nil=>cases h
 | cons c r=>
  have hc:c=32\/c=9:=by simpa [isBlank1] using h
  unfold oneF
  rcases cut_split 58 (c::r) with ⟨p,q,e,_,he⟩ | ⟨_,he⟩
  .rw [he]
   dsimp only
   cases p with
   | nil=>simp at e; rcases hc with h | h <;> rw [h] at e <;> exact absurd e.1 (by decide)
   | cons x p=>
    have:c=x:=(List.cons.inj e).1
    subst this
    rcases hc with h | h <;> subst h <;> simp [inName]
  .rw [he]; rfl
end Go.Proofs.YtoanepondbagcaaGreatDoor
