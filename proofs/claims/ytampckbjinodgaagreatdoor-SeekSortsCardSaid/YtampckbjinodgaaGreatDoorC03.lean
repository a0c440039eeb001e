/-
  Lifted functions, and facts about them.
-/
import Derived.Test.YtampckbjinodgaaGreatDoorRows
import Derived.Test.YtampckbjinodgaaGreatDoorAmC
import Derived.Test.YtampckbjinodgaaGreatDoorC02
import Derived.Test.YtampckbjinodgaaGreatDoorC01
import Derived.WalkKit
import Derived.Lib.Walk
import Derived.Lib.Builder
import Derived.Shelf.RegionOpenPlain
import Derived.Lib.UnsafeStr
import Derived.Lib.MakeNoZero
import Derived.Laws.IdiomCopy
namespace Go.Proofs.YtampckbjinodgaaGreatDoor
open Go Go.Am
set_option linter.unusedVariables false
def Fixbl (fuel:Nat) (s:List UInt8) (c:Int):Option Int:=some (ixS s c)
noncomputable def cixbl:Code:=bodyOf Tryz.f108
def envixbl:Env:=mkEnv [(140,sp_extib)]
theorem envixbl_ok:EnvOk Tryz.prog envixbl:=EnvOk_mk ⟨ok_extib.any,trivial⟩
theorem Tixbl (fuel:Nat) (s:List UInt8) (c res:Int) (h:Fixbl fuel s c=some res) (C:Ctx) (hC:CtxOk C 8 []):
 T Tryz.prog C (at_ cixbl []) (mkS [(0,.p (.str s)),(1,.p (.int .u8 c))] []) (Qend Tryz.prog C Tryz.f108.results.toList (.p (.int .i64 res))):=by
 have henv:=envixbl_ok
 unfold Fixbl at h
 refine T_seqp (p:=[]) (by kernel_rfl) ?_
 refine T_reg henv hC [] [(0,.p (.str s)),(1,.p (.int .u8 c))] [] [] (by kernel_rfl) (by kernel_rfl) trivial (fun s1 hs1=>?_)
 refine (T.weaken ?_ hs1:T Tryz.prog C (at_ cixbl [1]) _ _)
 refine T_seqp (p:=[1]) (by kernel_rfl) ?_
 refine T_reg henv hC [] [(4,.p (.int .i64 (ixS s c)))] [] [] (by kernel_rfl) (by kernel_rfl) trivial (fun s1 hs1=>?_)
 refine (T.weaken ?_ hs1:T Tryz.prog C (at_ cixbl [1,1]) _ _)
 refine T_retp (p:=[1,1]) (by kernel_rfl) ?_
 have h:=Option.some.inj h; subst h
 exact ⟨mkS [(4,.p (.int .i64 (ixS s c)))] [],(Sub.refl _),by kernel_rfl⟩
theorem fn_ixbl (fuel:Nat) (s:List UInt8) (c res:Int) (h:(∃ M vs,ARels γ0 M [.p (.str s),.p (.int .u8 c)] vs)->Fixbl fuel s c=some res):FnP Tryz.prog 108 [.p (.str s),.p (.int .u8 c)] (.p (.int .i64 res)):=
 FnP_lift (fn:=Tryz.f108) (by kernel_rfl) (by kernel_rfl) fun M vs hvs C hC0=>have hC:CtxOk C 8 []:=⟨hC0.nt.trans (by kernel_rfl),hC0.fx⟩; T.weaken (Tixbl fuel s c res (h ⟨M,vs,hvs⟩) C hC) (sinit_sub hC (by kernel_rfl) (by kernel_rfl))
def sp_ixbl:List AV->Option (AV×Option Prop):=sp_extib
theorem ok_ixbl:SpecOk Tryz.prog 108 sp_ixbl:=by
 intro zs r ok h hok
 unfold sp_ixbl sp_extib at h
 split at h
 .cases h; exact ⟨by kernel_rfl,fn_ixbl 0 _ _ _ fun _=>rfl⟩
 .cases h
end Go.Proofs.YtampckbjinodgaaGreatDoor
namespace Go.Proofs.YtampckbjinodgaaGreatDoor
open Go Go.Am
set_option linter.unusedVariables false
theorem u8c (c:UInt8):((c.toNat:Int)).toNat.toUInt8=c:=by simp
noncomputable def Gixl:Cfg:=⟨Tryz.prog,mkEnv [(108,sp_ixbl)],mkEnvR [],143,[],[],[]⟩
noncomputable def Fixl (F:Nat) (s:List UInt8) (c:UInt8):Option Ans:=runF Gixl Tryz.f134 F [.p (.str s),.p (.str [c])]
theorem Fixl_eq (F:Nat) (s:List UInt8) (c:UInt8):Fixl F s c=(((cond (false||([c]==s)) (some (.p (.int .i64 (0:Int)),[])) (need (0<=(0:Int)/\(0:Int) < ([c].length:Int)) (some (.p (.int .i64 (ixS s (([c].getD ((0:Int)).toNat 0).toNat:Int))),[])))))):=by
 have h:Fixl F s c=need ((!false)=true->(!false)=true) (need ((!false)=true->(!false)=true) (need (false=false->(!false)=true) (cond (false||([c]==s)) (some (.p (.int .i64 (0:Int)),[])) (need (0<=(0:Int)/\(0:Int) < ([c].length:Int)) (some (.p (.int .i64 (ixS s (([c].getD ((0:Int)).toNat 0).toNat:Int))),[])))))):=by kernel_rfl
 rw [h,need_pos (show false=false->(!false)=true from (fun q0=>(not_mk q0))),need_pos (show (!false)=true->(!false)=true from (fun q0=>q0)),need_pos (show (!false)=true->(!false)=true from (fun q0=>q0))]
theorem fn_ixl (F:Nat) (s:List UInt8) (c:UInt8) (r:AV) (h:(∃ M vs,ARels γ0 M [.p (.str s),.p (.str [c])] vs)->Fixl F s c=some (r,[])):FnP Tryz.prog 134 [.p (.str s),.p (.str [c])] r:=
 FnP_run Gixl F rfl (EnvOk_mk (l:=[(108,sp_ixbl)]) ⟨ok_ixbl.any,trivial⟩) (EnvROk_mk (l:=[]) trivial) (Checked.mixed Tryz.checked) (fn:=Tryz.f134) (by kernel_rfl) (by kernel_rfl) rfl h
theorem ixl_eq (s:List UInt8) (c:UInt8):Fixl 0 s c=some (.p (.int .i64 (ixS s (c.toNat:Int))),[]):=by
 rw [Fixl_eq]
 by_cases h:[c]=s
 .refine cond_t (by simp [h]) ?_
  subst h
  have:ixS [c] (c.toNat:Int)=0:=by unfold ixS; rw [u8c]; simp [Lib.indexByte]
  rw [this]
 .refine cond_f (by simp [h]) ?_
  exact need_mk (by simp) rfl
def sp_ixl:List AV->Option (AV×Option Prop)
 | [.p (.str s),.p (.str [c])]=>some (.p (.int .i64 (ixS s (c.toNat:Int))),none)
 | _=>none
theorem ok_ixl:SpecOk Tryz.prog 134 sp_ixl:=by
 intro zs r ok he hok
 unfold sp_ixl at he
 split at he
 .cases he; exact ⟨by kernel_rfl,fn_ixl 0 _ _ _ fun hx=>ixl_eq _ _⟩
 .cases he
end Go.Proofs.YtampckbjinodgaaGreatDoor
namespace Go.Proofs.YtampckbjinodgaaGreatDoor
open Go Go.Am
set_option linter.unusedVariables false
noncomputable def Gix1:Cfg:=⟨Tryz.prog,mkEnv [(134,sp_ixl)],mkEnvR [],8,[],[],[]⟩
noncomputable def Fix1 (F:Nat) (s:List UInt8) (c:UInt8):Option Ans:=runF Gix1 Tryz.f101 F [.p (.str s),.p (.str [c])]
theorem Fix1_eq (F:Nat) (s:List UInt8) (c:UInt8):Fix1 F s c=some (.p (.int .i64 (ixS s (c.toNat:Int))),[]):=by kernel_rfl
theorem fn_ix1 (F:Nat) (s:List UInt8) (c:UInt8) (r:AV) (h:(∃ M vs,ARels γ0 M [.p (.str s),.p (.str [c])] vs)->Fix1 F s c=some (r,[])):FnP Tryz.prog 101 [.p (.str s),.p (.str [c])] r:=
 FnP_run Gix1 F rfl (EnvOk_mk (l:=[(134,sp_ixl)]) ⟨ok_ixl.any,trivial⟩) (EnvROk_mk (l:=[]) trivial) (Checked.mixed Tryz.checked) (fn:=Tryz.f101) (by kernel_rfl) (by kernel_rfl) rfl h
theorem ix1_eq (s:List UInt8) (c:UInt8):Fix1 0 s c=some (.p (.int .i64 (ixS s (c.toNat:Int))),[]):=by rw [Fix1_eq]
def sp_ix1:List AV->Option (AV×Option Prop)
 | [.p (.str s),.p (.str [c])]=>some (.p (.int .i64 (ixS s (c.toNat:Int))),none)
 | _=>none
theorem ok_ix1:SpecOk Tryz.prog 101 sp_ix1:=by
 intro zs r ok he hok
 unfold sp_ix1 at he
 split at he
 .cases he; exact ⟨by kernel_rfl,fn_ix1 0 _ _ _ fun hx=>ix1_eq _ _⟩
 .cases he
end Go.Proofs.YtampckbjinodgaaGreatDoor
namespace Go.Proofs.YtampckbjinodgaaGreatDoor
open Go Go.Am
set_option linter.unusedVariables false
section
open Go.RowKit Go.Lib
set_option maxRecDepth 100000 in
theorem cc_used (b:Nat) (w:World) (h0:w.cell? ⟨b,0,none⟩=some (.pointer (some ⟨b,0,none⟩))):
 Calls Tryz.prog 110 #[.pointer (some ⟨b,0,none⟩)] w fun e w'=>e=.returned (.tuple #[])/\w'=w:=by
 obtain ⟨j,hj,_⟩:=Option.map_eq_some_iff.1 (show (Tryz.prog.info? 124).map (·.size)=some 2 by kernel_rfl)
 go_enter Tryz.func110,Tryz.ntmps110
 go_wp2
 rw [Lib.run_neq_ptr_same w _ Tryz.underlying122 hj]
 go_wp2
 go_end0
 exact ⟨rfl,rfl⟩
set_option maxRecDepth 100000 in
theorem cc_fresh (b:Nat) (w:World) (h0:w.cell? ⟨b,0,none⟩=some (.pointer none)) (hsh:w.shape? b=some (124,2)) (hfz:w.frozen? ⟨b,0,none⟩=false):
 Calls Tryz.prog 110 #[.pointer (some ⟨b,0,none⟩)] w fun e w'=>e=.returned (.tuple #[])/\w'=w.setCell ⟨b,0,none⟩ (.pointer (some ⟨b,0,none⟩)):=by
 obtain ⟨j,hj,hjs⟩:=Option.map_eq_some_iff.1 (show (Tryz.prog.info? 124).map (·.size)=some 2 by kernel_rfl)
 go_enter Tryz.func110,Tryz.ntmps110
 go_wp2
 rw [Lib.run_to_unsafe w ⟨b,0,none⟩ Tryz.underlying122 Tryz.underlying189 hj (by rw [hjs]; decide) hsh (Nat.zero_lt_succ 1)]
 simp only [Result.andThen]
 rw [Oper.upon_value]
 go_wp2
 rw [run_callFunc_extern Tryz.func142 (by kernel_rfl) (by kernel_rfl) (by kernel_rfl) (e:=Extern.AbiNoEscape.same) (by kernel_rfl)]
 rw [Lib.run_noEscape]
 simp only [Result.andThen]
 rw [Oper.upon_value]
 go_wp2
 rw [Lib.run_from_unsafe w ⟨b,0,none⟩ Tryz.underlying189 Tryz.underlying122 hj hsh (by kernel_rfl)]
 simp only [Result.andThen]
 rw [Oper.upon_value]
 go_wp2
 go_end0
 exact ⟨rfl,rfl⟩
set_option maxRecDepth 100000 in
theorem bs_us (W:World) (q:Option Addr):(Builtin.unsafeString_ #[174,3] 9 #[.pointer q,.int .i64 0]).run Tryz.prog W=.ok (.string .empty) W:=
 Lib.run_unsafeString_none W _ _ _ q
set_option maxHeartbeats 1000000 in
theorem bs_row (b g cap:Nat) (p:Value) (cur:Array Value) (l:List UInt8) (w:World) (h0:l≠[]) (hbk:w.heap[b]?=some (.cells #[p,.slice (some ⟨g,0,none⟩) l.length cap] 124 (0,0)))
 (hg:w.heap[g]?=some (.cells cur 5 (0,0))) (hnc:l.length<=cap) (hcm:cap<=maxLen) (hcs:cur.size=cap) (hcell:∀ i c,l[i]?=some c->w.cell? ⟨g,i,none⟩=some (byteV c)):
 Calls Tryz.prog 78 #[.pointer (some ⟨b,0,none⟩)] w fun e w'=>e=.returned (.string ⟨l.toArray⟩)/\w'=w.drew.freeze ⟨g,0,none⟩ l.length:=by
 have hl0:l.length≠0:=by simpa using h0
 have c1:w.drew.cell? ⟨b,1,none⟩=some (.slice (some ⟨g,0,none⟩) l.length cap):=by
  have:w.drew.heap[b]?=some (.cells #[p,.slice (some ⟨g,0,none⟩) l.length cap] 124 (0,0)):=hbk
  rw [Lib.cell_of_heap this]; rfl
 have hSD:(Builtin.unsafeSliceData_ #[34] 174 #[.slice (some ⟨g,0,none⟩) l.length cap]).run Tryz.prog w.drew=.ok (.pointer (some ⟨g,0,none⟩)) w.drew:=
  Lib.run_unsafeSliceData_row _ _ _ _ _ _ (by omega)
 have hUS:(Builtin.unsafeString_ #[174,3] 9 #[.pointer (some ⟨g,0,none⟩),.int .i64 l.length]).run Tryz.prog w.drew=.ok (.string ⟨l.toArray⟩) (w.drew.freeze ⟨g,0,none⟩ l.length):=by
  refine Lib.run_unsafeString_row w.drew 174 3 9 5 Tryz.underlying174 (by kernel_rfl) g cur.size (by have hg':w.drew.heap[g]?=some (.cells cur 5 (0,0)):=hg; simp [World.shape?,hg']) l h0 (by omega) (by unfold maxLen at hcm; omega) ?_
  intro j x hx
  have:=hcell j x hx
  have e:(⟨g,0,none⟩:Addr).add j=⟨g,j,none⟩:=by rw [addr_add,Nat.zero_add]
  rw [e]; exact this
 clear hcell
 go_enter Tryz.func78,Tryz.ntmps78
 go_wp2
 have mixed:=Checked.mixed Tryz.checked
 go_region_o
 all_goals (go_wp2; go_ret; exact ⟨rfl,rfl⟩)
set_option maxHeartbeats 1000000 in
theorem bs_nil (b:Nat) (p:Value) (w:World) (hbk:w.heap[b]?=some (.cells #[p,.slice none 0 0] 124 (0,0))):
 Calls Tryz.prog 78 #[.pointer (some ⟨b,0,none⟩)] w fun e w'=>e=.returned (.string ⟨#[]⟩)/\Below w.heap.size w w':=by
 have hUS:=bs_us
 have c1:w.drew.cell? ⟨b,1,none⟩=some (.slice none 0 0):=by
  have:w.drew.heap[b]?=some (.cells #[p,.slice none 0 0] 124 (0,0)):=hbk
  rw [Lib.cell_of_heap this]; rfl
 have hSD:(Builtin.unsafeSliceData_ #[34] 174 #[.slice none 0 0]).run Tryz.prog w.drew=.ok (.pointer none) w.drew:=rfl
 go_enter Tryz.func78,Tryz.ntmps78
 go_wp2
 have mixed:=Checked.mixed Tryz.checked
 go_region_o
 all_goals (go_wp2; go_ret; exact ⟨rfl,Below.drew (Below.refl _ w)⟩)
set_option maxHeartbeats 1000000 in
theorem bs_noroom (b g:Nat) (p:Value) (cur:Array Value) (w:World) (hbk:w.heap[b]?=some (.cells #[p,.slice (some ⟨g,0,none⟩) 0 0] 124 (0,0))) (hg:w.heap[g]?=some (.cells cur 5 (0,0))):
 Calls Tryz.prog 78 #[.pointer (some ⟨b,0,none⟩)] w fun e w'=>e=.returned (.string ⟨#[]⟩)/\Below w.heap.size w w':=by
 have hUS:=bs_us
 have hlt:b < w.heap.size:=by
  rcases Nat.lt_or_ge b w.heap.size with h' | h'
  .exact h'
  .simp [Array.getElem?_eq_none h'] at hbk
 have c1:w.drew.cell? ⟨b,1,none⟩=some (.slice (some ⟨g,0,none⟩) 0 0):=by
  have:w.drew.heap[b]?=some (.cells #[p,.slice (some ⟨g,0,none⟩) 0 0] 124 (0,0)):=hbk
  rw [Lib.cell_of_heap this]; rfl
 have hSD:(Builtin.unsafeSliceData_ #[34] 174 #[.slice (some ⟨g,0,none⟩) 0 0]).run Tryz.prog w.drew=.ok (.pointer (some ⟨w.drew.heap.size,0,none⟩)) (w.drew.alloc (.view ⟨g,0,none⟩ 5)):=
  Lib.run_unsafeSliceData_zero w.drew _ _ 5 Tryz.underlying174 ⟨g,0,none⟩ 0 (5,cur.size) (by have hg':w.drew.heap[g]?=some (.cells cur 5 (0,0)):=hg; simp [World.shape?,hg'])
 have c2:(w.drew.alloc (.view ⟨g,0,none⟩ 5)).cell? ⟨b,1,none⟩=some (.slice (some ⟨g,0,none⟩) 0 0):=by
  have:(w.drew.alloc (.view ⟨g,0,none⟩ 5)).heap[b]?=_:=(Lib.alloc_old w.drew _ b hlt).trans hbk
  rw [Lib.cell_of_heap this]; rfl
 have c3:(w.alloc (.view ⟨g,0,none⟩ 5)).drew.cell? ⟨b,1,none⟩=some (.slice (some ⟨g,0,none⟩) 0 0):=c2
 have c0:w.cell? ⟨b,1,none⟩=some (.slice (some ⟨g,0,none⟩) 0 0):=c1
 go_enter Tryz.func78,Tryz.ntmps78
 go_wp2
 have mixed:=Checked.mixed Tryz.checked
 go_region_o
 all_goals (go_wp2; go_ret; exact ⟨rfl,(Below.drew (Below.refl _ w)).alloc (Nat.le_refl _) _⟩)
set_option maxHeartbeats 1000000 in
theorem bs_room (b g cap:Nat) (p:Value) (w:World) (hc0:cap≠0) (hbk:w.heap[b]?=some (.cells #[p,.slice (some ⟨g,0,none⟩) 0 cap] 124 (0,0))):
 Calls Tryz.prog 78 #[.pointer (some ⟨b,0,none⟩)] w fun e w'=>e=.returned (.string ⟨#[]⟩)/\Below w.heap.size w w':=by
 have hUS:=bs_us
 have c1:w.drew.cell? ⟨b,1,none⟩=some (.slice (some ⟨g,0,none⟩) 0 cap):=by
  have:w.drew.heap[b]?=some (.cells #[p,.slice (some ⟨g,0,none⟩) 0 cap] 124 (0,0)):=hbk
  rw [Lib.cell_of_heap this]; rfl
 have hSD:(Builtin.unsafeSliceData_ #[34] 174 #[.slice (some ⟨g,0,none⟩) 0 cap]).run Tryz.prog w.drew=.ok (.pointer (some ⟨g,0,none⟩)) w.drew:=
  Lib.run_unsafeSliceData_row _ _ _ _ _ _ hc0
 clear hc0
 go_enter Tryz.func78,Tryz.ntmps78
 go_wp2
 have mixed:=Checked.mixed Tryz.checked
 go_region_o
 all_goals (go_wp2; go_ret; exact ⟨rfl,Below.drew (Below.refl _ w)⟩)
end
end Go.Proofs.YtampckbjinodgaaGreatDoor
namespace Go.Proofs.YtampckbjinodgaaGreatDoor
open Go Go.Am
set_option linter.unusedVariables false
section
open Go.RowKit Go.Lib
theorem bld_parts {γ:Nat->Option G} {M:Mem} {w:World} {L:Nat->Prop} {obF:Nat->Option AObj} {id:Nat} {T:TypeId} {a:AV} (hO:Objs γ M w obF L) (ho:obF id=some (.bldr T a)):
 ∃ b v0 v1,γ id=some (.cell b)/\w.heap[b]?=some (.cells #[v0,v1] T (0,0))/\(v0=.pointer none\/v0=.pointer (some ⟨b,0,none⟩))/\ARel γ M a v1/\v1.oneCell'=true/\(∀ o,M b o=none):=hO.ob id _ ho
theorem FnR_cc (a:AV) (rest:List (Nat×AObj)):
 FnR Tryz.prog 110 [.ref 70000 0] ((70000,.bldr 124 a)::rest) (70000::rest.map (·.1)) (.tup []) ((70000,.bldr 124 a)::rest):=by
 intro γ M w vs hO hnone hM hvs
 obtain ⟨b,v0,v1,hg,hh,h0,h1,h2,hm⟩:=bld_parts (id:=70000) hO rfl
 cases hvs with
 | cons hx ht=>
  cases ht
  obtain ⟨b',hg',rfl⟩:=hx.ref_inv
  rw [hg] at hg'; cases hg'
  have hb:Go.Am.Handed γ ((70000,.bldr 124 a)::rest) b:=⟨70000,.cell b,by simp [lookO],hg,rfl⟩
  have hlt:b < w.heap.size:=hO.lo 70000 _ b (by simp [lookO]) hg rfl
  have e0:([Value.pointer (some ⟨b,0,none⟩)]:List Value).toArray=#[.pointer (some ⟨b,0,none⟩)]:=rfl
  rcases h0 with rfl | rfl
  .have hc0:w.cell? ⟨b,0,none⟩=some (.pointer none):=by rw [cell_of_row w b 0 _ _ _ hh]; rfl
   refine (cc_fresh b w hc0 (by simp [World.shape?,hh]) (by simp [World.frozen?,hh])).mono fun e w' ⟨he,hw⟩=>?_
   subst hw
   have hset:(w.setCell ⟨b,0,none⟩ (.pointer (some ⟨b,0,none⟩)))=w.setRow b #[.pointer (some ⟨b,0,none⟩),v1]:=by
    rw [setCell_eq_setRow w b 0 _ _ _ _ hh]; rfl
   rw [hset]
   have hoth:∀ c,c≠b->(w.setRow b #[.pointer (some ⟨b,0,none⟩),v1]).heap[c]?=w.heap[c]?:=fun c hc=>setRow_other w b c _ hc
   refine ⟨_,γ,M,he,fun i _ g hgi=>hgi,MLe.refl M,?_,.tup _ _ rfl (fun i hi=>absurd hi (Nat.not_lt_zero _)),⟨?_,hO.sep,?_⟩,?_,by simp,rfl,rfl,rfl⟩
   .refine ⟨?_,hM.good⟩
    intro c o v hv
    have hc:c≠b:=fun e=>by subst e; rw [hm o] at hv; cases hv
    rw [World.cell?_of_block (w:=w) (hoth c hc)]; exact hM c o v hv
   .intro i o hi
    by_cases e:i=70000
    .subst e
     have:o=.bldr 124 a:=by simpa [lookO] using hi.symm
     subst this
     exact ⟨b,_,v1,hg,setRow_heap w b _ _ _ _ hh,.inr rfl,h1,h2,hm⟩
    .refine (hO.ob i o hi).keep (GLe.refl γ) (MLe.refl M) fun g c hgi hgc=>⟨hoth c fun ec=>?_,rfl⟩
     subst ec
     exact e (hO.sep i 70000 g (.cell c) c (by rw [hi]; simp) (by simp [lookO]) hgi hg hgc rfl)
   .intro i g c hi hgi hgc
    have:=hO.lo i g c hi hgi hgc
    exact ⟨.inr ⟨i,g,hi,hgi,hgc⟩,by simpa using this⟩
   .intro c hc hno
    exact ⟨hoth c fun e=>hno (by rw [e]; exact hb),rfl⟩
  .have hc0:w.cell? ⟨b,0,none⟩=some (.pointer (some ⟨b,0,none⟩)):=by rw [cell_of_row w b 0 _ _ _ hh]; rfl
   refine (cc_used b w hc0).mono fun e w' ⟨he,hw⟩=>?_
   subst hw
   exact ⟨_,γ,M,he,fun i _ g hgi=>hgi,MLe.refl M,hM,.tup _ _ rfl (fun i hi=>absurd hi (Nat.not_lt_zero _)),⟨hO.ob,hO.sep,fun i g c hi hgi hgc=>⟨.inr ⟨i,g,hi,hgi,hgc⟩,hO.lo i g c hi hgi hgc⟩⟩,
    fun c hc hno=>⟨rfl,rfl⟩,Nat.le_refl _,rfl,rfl,rfl⟩
theorem freeze_cell (w:World) (a:Addr) (n:Nat) (p:Addr):(w.drew.freeze a n).cell? p=w.cell? p:=by
 unfold World.freeze
 split
 .rfl
 .have hd:w.drew.heap=w.heap:=rfl
  simp only [World.cell?,Array.getElem?_modify,hd]
  by_cases e:a.block=p.block
  .rw [if_pos e]
   cases hh2:w.heap[p.block]? with
   | none=>rfl
   | some o=>cases o <;> rfl
  .rw [if_neg e]
theorem FnR_str_of {γ:Nat->Option G} {M:Mem} {w w':World} {ib:List (Nat×AObj)} {l:List UInt8} (hM:MOk M w) (hl:l.length<=maxLen) (hold:∀ c,c < w.heap.size->¬ Go.Am.Handed γ ib c->w'.heap[c]?=w.heap[c]?) (hcell:∀ c o v,M c o=some v->w'.cell? ⟨c,o,none⟩=w.cell? ⟨c,o,none⟩)
 (hsz:w.heap.size<=w'.heap.size) (h1:w'.os=w.os) (h2:w'.tape=w.tape) (h3:w'.output=w.output):
 ∃ v γ' M',Ending.returned (.string ⟨l.toArray⟩)=.returned v/\(∀ i ∈ ([]:List Nat),∀ g,γ i=some g->γ' i=some g)/\MLe M M'/\MOk M' w'/\ARel γ' M' (.p (.str l)) v/\
  Objs γ' M' w' (fun i=>lookO i []) (fun b=>(w.heap.size<=b\/Go.Am.Handed γ ib b)/\b < w'.heap.size)/\
  (∀ b,b < w.heap.size->¬ Go.Am.Handed γ ib b->w'.heap[b]?=w.heap[b]?/\M' b=M b)/\w.heap.size<=w'.heap.size/\w'.os=w.os/\w'.tape=w.tape/\w'.output=w.output:=
 ⟨_,γ,M,rfl,fun i hi=>(by cases hi),MLe.refl M,⟨fun c o v hv=>(by rw [hcell c o v hv]; exact hM c o v hv),hM.good⟩,.p _ _ (.str l hl),
  ⟨fun i o hi=>(by cases hi),fun i j g g' b hi=>absurd rfl hi,fun i g b hi=>absurd rfl hi⟩,fun b hb hno=>⟨hold b hb hno,rfl⟩,hsz,h1,h2,h3⟩
theorem below_cell {w w':World} (hb:Below w.heap.size w w') {M:Mem} (hM:MOk M w):∀ c o v,M c o=some v->w'.cell? ⟨c,o,none⟩=w.cell? ⟨c,o,none⟩:=fun c o v hv=>by
 have hc:c < w.heap.size:=by
  rcases Nat.lt_or_ge c w.heap.size with h | h
  .exact h
  .have:=hM c o v hv
   simp [World.cell?,Array.getElem?_eq_none h] at this
 exact hb.cell (p:=⟨c,o,none⟩) hc
theorem FnR_str (mu:Bool) (l:List UInt8):
 FnR Tryz.prog 78 [.ref 70000 0] [(70000,.bldr 124 (.arr 70001)),(70001,.barr 5 mu l)] [] (.p (.str l)) []:=by
 intro γ M w vs hO hnone hM hvs
 obtain ⟨b,v0,v1,hg,hh,h0,h1,h2,hm⟩:=bld_parts (id:=70000) hO rfl
 obtain ⟨a,cap,hg1,hA⟩:=hO.ob 70001 (.barr 5 mu l) rfl
 cases hvs with
 | cons hx ht=>
  cases ht
  obtain ⟨b',hg',rfl⟩:=hx.ref_inv
  rw [hg] at hg'; cases hg'
  obtain ⟨a',k',n',cap',hg1',rfl⟩:=h1.arr_inv
  rw [hg1] at hg1'; cases hg1'
  cases a with
  | none=>
   obtain ⟨hl,rfl⟩:=hA.none
   have:l=[]:=List.eq_nil_of_length_eq_zero hl
   subst this
   refine (bs_nil b v0 w hh).mono fun e w' ⟨he,hb⟩=>?_
   rw [he]
   exact FnR_str_of hM (by simp) (fun c hc _=>hb.block c hc) (below_cell hb hM) hb.size hb.os hb.tape hb.output
  | some g=>
   rcases hA.own.2 with ⟨hv,_⟩ | ⟨g',cap',cur,hv,_,hgh,hnc,hcm,hcs,htake⟩
   .simp [arrV] at hv
   .simp only [arrV,Option.map_some,Value.slice.injEq,Option.some.injEq,Addr.mk.injEq,and_true,true_and] at hv
    obtain ⟨rfl,rfl⟩:=hv
    have hne:g≠b:=fun e=>by
     subst e
     have:=hO.sep 70000 70001 _ _ g (by simp [lookO]) (by simp [lookO]) hg hg1 rfl rfl
     cases this
    have hbg:Go.Am.Handed γ [(70000,.bldr 124 (.arr 70001)),(70001,.barr 5 mu l)] g:=⟨70001,_,by simp [lookO],hg1,rfl⟩
    by_cases hl:l=[]
    .subst hl
     by_cases hc0:cap=0
     .subst hc0
      refine (bs_noroom b g v0 cur w hh hgh).mono fun e w' ⟨he,hb⟩=>?_
      rw [he]
      exact FnR_str_of hM (by simp) (fun c hc _=>hb.block c hc) (below_cell hb hM) hb.size hb.os hb.tape hb.output
     .refine (bs_room b g cap v0 w hc0 hh).mono fun e w' ⟨he,hb⟩=>?_
      rw [he]
      exact FnR_str_of hM (by simp) (fun c hc _=>hb.block c hc) (below_cell hb hM) hb.size hb.os hb.tape hb.output
    .refine (bs_row b g cap v0 cur l w hl hh hgh hnc hcm (by simpa using hcs) fun i c hc=>?_).mono fun e w' ⟨he,hw⟩=>?_
     .exact hA.cell i _ (by rw [List.getElem?_map,hc]; rfl)
     .subst hw
      rw [he]
      have hoth:∀ c,c≠g->(w.drew.freeze ⟨g,0,none⟩ l.length).heap[c]?=w.heap[c]?:=fun c hc=>by
       unfold World.freeze
       split
       .rfl
       .simp only [Array.getElem?_modify]; rw [if_neg (fun e=>hc e.symm)]; rfl
      refine FnR_str_of hM hA.len (fun c hc hno=>hoth c fun e=>hno (by rw [e]; exact hbg)) (fun c o v hv=>freeze_cell _ _ _ _) ?_ ?_ ?_ ?_
      .unfold World.freeze; split
       .exact Nat.le_refl _
       .simp only [Array.size_modify]; exact Nat.le_refl _
      .unfold World.freeze; split <;> rfl
      .unfold World.freeze; split <;> rfl
      .unfold World.freeze; split <;> rfl
theorem FnR_str0:FnR Tryz.prog 78 [.ref 70000 0] [(70000,.bldr 124 (.p .nil))] [] (.p (.str [])) []:=by
 intro γ M w vs hO hnone hM hvs
 obtain ⟨b,v0,v1,hg,hh,h0,h1,h2,hm⟩:=bld_parts (id:=70000) hO rfl
 cases hvs with
 | cons hx ht=>
  cases ht
  obtain ⟨b',hg',rfl⟩:=hx.ref_inv
  rw [hg] at hg'; cases hg'
  cases h1.p_inv
  refine (bs_nil b v0 w hh).mono fun e w' ⟨he,hb⟩=>?_
  rw [he]
  exact FnR_str_of hM (by simp) (fun c hc _=>hb.block c hc) (below_cell hb hM) hb.size hb.os hb.tape hb.output
def sp_bcc:RSpec:=⟨[false],fun args ib=>match args,ib with
 | [.ref 70000 0],[(70000,.bldr 124 (.arr 70001)),(70001,.barr 5 mu l)]=>some (([70000,70001],.tup []),([(70000,.bldr 124 (.arr 70001)),(70001,.barr 5 mu l)],none))
 | [.ref 70000 0],[(70000,.bldr 124 (.p .nil))]=>some (([70000],.tup []),([(70000,.bldr 124 (.p .nil))],none))
 | _,_=>none⟩
theorem ok_bcc:SpecROk Tryz.prog 110 sp_bcc:=by
 intro args ib kept r outs ok he hok
 simp only [sp_bcc] at he
 split at he
 .cases he; exact ⟨by kernel_rfl,FnR_cc _ _⟩
 .cases he; exact ⟨by kernel_rfl,FnR_cc _ []⟩
 .cases he
def sp_bstr:RSpec:=⟨[false],fun args ib=>match args,ib with
 | [.ref 70000 0],[(70000,.bldr 124 (.arr 70001)),(70001,.barr 5 mu l)]=>some (([],.p (.str l)),([],none))
 | [.ref 70000 0],[(70000,.bldr 124 (.p .nil))]=>some (([],.p (.str [])),([],none))
 | _,_=>none⟩
theorem ok_bstr:SpecROk Tryz.prog 78 sp_bstr:=by
 intro args ib kept r outs ok he hok
 simp only [sp_bstr] at he
 split at he
 .cases he; exact ⟨by kernel_rfl,FnR_str _ _⟩
 .cases he; exact ⟨by kernel_rfl,FnR_str0⟩
 .cases he
end
end Go.Proofs.YtampckbjinodgaaGreatDoor
namespace Go.Proofs.YtampckbjinodgaaGreatDoor
open Go Go.Am
set_option linter.unusedVariables false
noncomputable def Gwsr:Cfg:=⟨Tryz.prog,mkEnv [],mkEnvR [(110,sp_bcc)],19,[70000],[],[([0,1],[1])]⟩
noncomputable def Fwsr (F:Nat) (s l:List UInt8):Option Ans:=runFR Gwsr Tryz.f76 ⟨[4,5],[⟨.fix 70000,70000,.cells []⟩,⟨.cell 70000 1,70001001,(.barr 5 false [])⟩]⟩ [70000,70001001] F [.ref 70000 0,.p (.str s)] [(70000,.bldr 124 (.arr 70001)),(70001,.barr 5 false l)]
theorem Fwsr_eq (F:Nat) (s l:List UInt8):Fwsr F s l=need ((l.length+s.length) * 1<=140737488355328) (some (.tup [.p (.int .i64 (s.length:Int)),.p (.plain .nilIface)],[(70000,.bldr 124 (.arr 70001001)),(70001001,.barr 5 false (l++s))])):=by kernel_rfl
theorem fn_wsr (F:Nat) (s l:List UInt8) (r:AV) (os:List (Nat×AObj)) (h:(∃ γ M w vs,ARels γ M [.ref 70000 0,.p (.str s)] vs/\Objs γ M w (fun i=>lookO i [(70000,.bldr 124 (.arr 70001)),(70001,.barr 5 false l)]) (fun b=>b < w.heap.size))->Fwsr F s l=some (r,os)):FnR Tryz.prog 76 [.ref 70000 0,.p (.str s)] [(70000,.bldr 124 (.arr 70001)),(70001,.barr 5 false l)] [70000] r os:=
 FnR_run Gwsr ⟨[4,5],[⟨.fix 70000,70000,.cells []⟩,⟨.cell 70000 1,70001001,(.barr 5 false [])⟩]⟩ [70000,70001001] F rfl (EnvOk_mk (l:=[]) trivial) (EnvROk_mk (l:=[(110,sp_bcc)]) ⟨ok_bcc,trivial⟩) (Checked.mixed Tryz.checked) (fn:=Tryz.f76) (by kernel_rfl) (by kernel_rfl) rfl h
noncomputable def Gwsn:Cfg:=⟨Tryz.prog,mkEnv [],mkEnvR [(110,sp_bcc)],19,[70000],[],[([0,1],[1])]⟩
noncomputable def Fwsn (F:Nat) (s:List UInt8):Option Ans:=runFR Gwsn Tryz.f76 ⟨[4,5],[⟨.fix 70000,70000,.cells []⟩,⟨.cell 70000 1,70001001,(.barr 5 false [])⟩]⟩ [70000,70001001] F [.ref 70000 0,.p (.str s)] [(70000,.bldr 124 (.p .nil))]
theorem Fwsn_eq (F:Nat) (s:List UInt8):Fwsn F s=need (s.length * 1<=140737488355328) (some (.tup [.p (.int .i64 (s.length:Int)),.p (.plain .nilIface)],[(70000,.bldr 124 (.arr 70001001)),(70001001,.barr 5 false s)])):=by kernel_rfl
theorem fn_wsn (F:Nat) (s:List UInt8) (r:AV) (os:List (Nat×AObj)) (h:(∃ γ M w vs,ARels γ M [.ref 70000 0,.p (.str s)] vs/\Objs γ M w (fun i=>lookO i [(70000,.bldr 124 (.p .nil))]) (fun b=>b < w.heap.size))->Fwsn F s=some (r,os)):FnR Tryz.prog 76 [.ref 70000 0,.p (.str s)] [(70000,.bldr 124 (.p .nil))] [70000] r os:=
 FnR_run Gwsn ⟨[4,5],[⟨.fix 70000,70000,.cells []⟩,⟨.cell 70000 1,70001001,(.barr 5 false [])⟩]⟩ [70000,70001001] F rfl (EnvOk_mk (l:=[]) trivial) (EnvROk_mk (l:=[(110,sp_bcc)]) ⟨ok_bcc,trivial⟩) (Checked.mixed Tryz.checked) (fn:=Tryz.f76) (by kernel_rfl) (by kernel_rfl) rfl h
noncomputable def Gwbr:Cfg:=⟨Tryz.prog,mkEnv [],mkEnvR [(110,sp_bcc)],17,[70000],[],[([0,1],[1])]⟩
noncomputable def Fwbr (F:Nat) (c:Int) (l:List UInt8):Option Ans:=runFR Gwbr Tryz.f80 ⟨[4],[⟨.fix 70000,70000,.cells []⟩,⟨.cell 70000 1,70001001,(.barr 5 false [])⟩]⟩ [70000,70001001] F [.ref 70000 0,.p (.int .u8 c)] [(70000,.bldr 124 (.arr 70001)),(70001,.barr 5 false l)]
theorem Fwbr_eq (F:Nat) (c:Int) (l:List UInt8):Fwbr F c l=need ((l.length+[UInt8.ofNat (c).toNat].length) * 1<=140737488355328) (some (.p (.plain .nilIface),[(70000,.bldr 124 (.arr 70001001)),(70001001,.barr 5 false (l++[UInt8.ofNat (c).toNat]))])):=by kernel_rfl
theorem fn_wbr (F:Nat) (c:Int) (l:List UInt8) (r:AV) (os:List (Nat×AObj)) (h:(∃ γ M w vs,ARels γ M [.ref 70000 0,.p (.int .u8 c)] vs/\Objs γ M w (fun i=>lookO i [(70000,.bldr 124 (.arr 70001)),(70001,.barr 5 false l)]) (fun b=>b < w.heap.size))->Fwbr F c l=some (r,os)):FnR Tryz.prog 80 [.ref 70000 0,.p (.int .u8 c)] [(70000,.bldr 124 (.arr 70001)),(70001,.barr 5 false l)] [70000] r os:=
 FnR_run Gwbr ⟨[4],[⟨.fix 70000,70000,.cells []⟩,⟨.cell 70000 1,70001001,(.barr 5 false [])⟩]⟩ [70000,70001001] F rfl (EnvOk_mk (l:=[]) trivial) (EnvROk_mk (l:=[(110,sp_bcc)]) ⟨ok_bcc,trivial⟩) (Checked.mixed Tryz.checked) (fn:=Tryz.f80) (by kernel_rfl) (by kernel_rfl) rfl h
noncomputable def Gwbn:Cfg:=⟨Tryz.prog,mkEnv [],mkEnvR [(110,sp_bcc)],17,[70000],[],[([0,1],[1])]⟩
noncomputable def Fwbn (F:Nat) (c:Int):Option Ans:=runFR Gwbn Tryz.f80 ⟨[4],[⟨.fix 70000,70000,.cells []⟩,⟨.cell 70000 1,70001001,(.barr 5 false [])⟩]⟩ [70000,70001001] F [.ref 70000 0,.p (.int .u8 c)] [(70000,.bldr 124 (.p .nil))]
theorem Fwbn_eq (F:Nat) (c:Int):Fwbn F c=need ([UInt8.ofNat (c).toNat].length * 1<=140737488355328) (some (.p (.plain .nilIface),[(70000,.bldr 124 (.arr 70001001)),(70001001,.barr 5 false [UInt8.ofNat (c).toNat])])):=by kernel_rfl
theorem fn_wbn (F:Nat) (c:Int) (r:AV) (os:List (Nat×AObj)) (h:(∃ γ M w vs,ARels γ M [.ref 70000 0,.p (.int .u8 c)] vs/\Objs γ M w (fun i=>lookO i [(70000,.bldr 124 (.p .nil))]) (fun b=>b < w.heap.size))->Fwbn F c=some (r,os)):FnR Tryz.prog 80 [.ref 70000 0,.p (.int .u8 c)] [(70000,.bldr 124 (.p .nil))] [70000] r os:=
 FnR_run Gwbn ⟨[4],[⟨.fix 70000,70000,.cells []⟩,⟨.cell 70000 1,70001001,(.barr 5 false [])⟩]⟩ [70000,70001001] F rfl (EnvOk_mk (l:=[]) trivial) (EnvROk_mk (l:=[(110,sp_bcc)]) ⟨ok_bcc,trivial⟩) (Checked.mixed Tryz.checked) (fn:=Tryz.f80) (by kernel_rfl) (by kernel_rfl) rfl h
def sp_wstr:RSpec:=⟨[false,true],fun args ib=>match args,ib with
 | [.ref 70000 0,.p (.str s)],[(70000,.bldr 124 (.arr 70001)),(70001,.barr 5 false l)]=>some (([70000],.tup [.p (.int .i64 (s.length:Int)),.p (.plain .nilIface)]),([(70000,.bldr 124 (.arr 70001001)),(70001001,.barr 5 false (l++s))],some (l.length+s.length<=140737488355328)))
 | [.ref 70000 0,.p (.str s)],[(70000,.bldr 124 (.p .nil))]=>some (([70000],.tup [.p (.int .i64 (s.length:Int)),.p (.plain .nilIface)]),([(70000,.bldr 124 (.arr 70001001)),(70001001,.barr 5 false s)],some (s.length<=140737488355328)))
 | _,_=>none⟩
theorem ok_wstr:SpecROk Tryz.prog 76 sp_wstr:=by
 intro args ib kept r outs ok he hok
 simp only [sp_wstr] at he
 split at he
 .cases he
  exact ⟨by kernel_rfl,fn_wsr 0 _ _ _ _ fun _=>by rw [Fwsr_eq,need_pos (by rw [Nat.mul_one]; exact hok)]⟩
 .cases he
  exact ⟨by kernel_rfl,fn_wsn 0 _ _ _ fun _=>by rw [Fwsn_eq,need_pos (by rw [Nat.mul_one]; exact hok)]⟩
 .cases he
def sp_wbyte:RSpec:=⟨[false,true],fun args ib=>match args,ib with
 | [.ref 70000 0,.p (.int .u8 c)],[(70000,.bldr 124 (.arr 70001)),(70001,.barr 5 false l)]=>some (([70000],.p (.plain .nilIface)),([(70000,.bldr 124 (.arr 70001001)),(70001001,.barr 5 false (l++[UInt8.ofNat c.toNat]))],some (l.length+1<=140737488355328)))
 | [.ref 70000 0,.p (.int .u8 c)],[(70000,.bldr 124 (.p .nil))]=>some (([70000],.p (.plain .nilIface)),([(70000,.bldr 124 (.arr 70001001)),(70001001,.barr 5 false [UInt8.ofNat c.toNat])],none))
 | _,_=>none⟩
theorem ok_wbyte:SpecROk Tryz.prog 80 sp_wbyte:=by
 intro args ib kept r outs ok he hok
 simp only [sp_wbyte] at he
 split at he
 .cases he
  exact ⟨by kernel_rfl,fn_wbr 0 _ _ _ _ fun _=>by rw [Fwbr_eq,need_pos (by rw [Nat.mul_one]; exact hok)]⟩
 .cases he
  exact ⟨by kernel_rfl,fn_wbn 0 _ _ _ fun _=>by rw [Fwbn_eq,need_pos (by show 1 * 1<=_; decide)]⟩
 .cases he
end Go.Proofs.YtampckbjinodgaaGreatDoor
namespace Go.Proofs.YtampckbjinodgaaGreatDoor
open Go Go.Am
set_option linter.unusedVariables false
section
open Go.RowKit Go.Lib
set_option maxHeartbeats 1000000 in
theorem bg_fresh (b n:Nat) (w:World) (hbk:w.heap[b]?=some (.cells #[.pointer (some ⟨b,0,none⟩),.slice none 0 0] 124 (0,0))) (hn:n<=281474976710656):
 Calls Tryz.prog 169 #[.pointer (some ⟨b,0,none⟩),.int .i64 n] w fun e w'=>e=.returned (.tuple #[])/\
  ∃ cs:Array Value,cs.size<=maxLen/\w'.heap=((w.setCell ⟨b,1,none⟩ (.slice (some ⟨w.heap.size,0,none⟩) 0 cs.size)).alloc (.cells cs 5)).heap/\w'.os=w.os/\w'.tape=w.tape/\w'.output=w.output:=by
 obtain ⟨cs,hrun,hle,hmax⟩:=Lib.run_makeNoZero (P:=Tryz.prog) w.drew #[3] 34 5 Tryz.underlying34 n hn
 have hw:IntKind.i64.wrap (IntKind.i64.wrap 0+(n:Int))=n:=by
  rw [IntKind.wrap_i64,IntKind.wrap_i64]
  omega
 have hcall:(callFunc 187 #[.int .i64 (IntKind.i64.wrap (IntKind.i64.wrap 0+(n:Int)))]).run Tryz.prog w.drew=.ok (.value (.slice (some ⟨w.drew.heap.size,0,none⟩) n cs.size)) (w.drew.drew.drew.alloc (.cells cs 5)):=by
  rw [hw,run_callFunc_extern Tryz.func187 (by kernel_rfl) (by kernel_rfl) (by kernel_rfl) (e:=Extern.BytealgMakeNoZero.makeNoZero #[3] #[34]) (by kernel_rfl),hrun]
  rfl
 have hlt:b < w.heap.size:=by
  rcases Nat.lt_or_ge b w.heap.size with h' | h'
  .exact h'
  .simp [Array.getElem?_eq_none h'] at hbk
 have c1:w.drew.cell? ⟨b,1,none⟩=some (.slice none 0 0):=by
  have:w.drew.heap[b]?=_:=hbk
  rw [Lib.cell_of_heap this]; rfl
 have c2:(w.alloc (.cells cs 5)).cell? ⟨b,1,none⟩=some (.slice none 0 0):=by
  have:(w.alloc (.cells cs 5)).heap[b]?=_:=(Lib.alloc_old w _ b hlt).trans hbk
  rw [Lib.cell_of_heap this]; rfl
 have f2:(w.alloc (.cells cs 5)).frozen? ⟨b,1,none⟩=false:=by
  exact Lib.frozen_of_heap ((Lib.alloc_old w _ b hlt).trans hbk) 1
 have hcopy:∀ W:World,(Builtin.copy_ #[34,34] 3 #[.slice (some ⟨w.heap.size,0,none⟩) 0 cs.size,.slice none 0 0]).run Tryz.prog W=.ok (goInt 0) W:=
  fun W=>run_copy_none W 34 34 3 5 _ _ 0 cs.size 0 0 Tryz.underlying34 (by kernel_rfl) rfl
 clear hw
 have hfin:=hmax (by unfold maxLen; omega)
 have mixed:=Checked.mixed Tryz.checked
 go_enter Tryz.func169,Tryz.ntmps169
 go_wp2
 go_region_o
 all_goals (go_wp2; go_end0; exact ⟨rfl,cs,hfin,rfl,rfl,rfl,rfl⟩)
set_option maxHeartbeats 1000000 in
theorem bG_fresh (b n:Nat) (w w1:World) (h1n:1<=n) (hn:n<=281474976710656)
 (hcc:Calls Tryz.prog 110 #[.pointer (some ⟨b,0,none⟩)] w fun e w'=>e=.returned (.tuple #[])/\w'=w1)
 (hbk1:w1.heap[b]?=some (.cells #[.pointer (some ⟨b,0,none⟩),.slice none 0 0] 124 (0,0))):
 Calls Tryz.prog 138 #[.pointer (some ⟨b,0,none⟩),.int .i64 n] w fun e w'=>e=.returned (.tuple #[])/\
  ∃ cs:Array Value,cs.size<=maxLen/\w'.heap=((w1.setCell ⟨b,1,none⟩ (.slice (some ⟨w1.heap.size,0,none⟩) 0 cs.size)).alloc (.cells cs 5)).heap/\w'.os=w1.os/\w'.tape=w1.tape/\w'.output=w1.output:=by
 have c1:w1.cell? ⟨b,1,none⟩=some (.slice none 0 0):=by rw [Lib.cell_of_heap hbk1]; rfl
 have mixed:=Checked.mixed Tryz.checked
 have c1':w1.drew.cell? ⟨b,1,none⟩=some (.slice none 0 0):=c1
 have hgr:=bg_fresh b n w1.drew hbk1 hn
 go_enter Tryz.func138,Tryz.ntmps138
 go_wp2_with (go_at_call 110; refine hcc.mono ?_; rintro e w' ⟨rfl,rfl⟩)
 go_region_o
 all_goals go_wp2_with (go_at_call 169; refine hgr.mono ?_; rintro e w' ⟨rfl,cs,h1,h2,h3,h4,h5⟩)
 all_goals first
  | (go_end0; exact ⟨rfl,cs,h1,h2,h3,h4,h5⟩)
  | (exfalso; simp_all; omega)
end
end Go.Proofs.YtampckbjinodgaaGreatDoor
namespace Go.Proofs.YtampckbjinodgaaGreatDoor
open Go Go.Am
set_option linter.unusedVariables false
section
open Go.RowKit Go.Lib
theorem two_look {α:Type} {i a b:Nat} {x y o:α} (h:lookO i [(a,x),(b,y)]=some o):(i=a/\o=x)\/(i=b/\o=y):=by
 have:=lookO_mem h
 simp only [List.mem_cons,Prod.mk.injEq,List.not_mem_nil,or_false] at this
 exact this
theorem two_none {α:Type} {i a b:Nat} {x y:α} (h:lookO i [(a,x),(b,y)]≠none):i=a\/i=b:=by
 cases hl:lookO i [(a,x),(b,y)] with
 | none=>exact absurd hl h
 | some o => rcases two_look hl with h | h
             .exact .inl h.1
             .exact .inr h.1
theorem FnR_grow (n:Nat) (h1n:1<=n) (hn:n<=281474976710656):
 FnR Tryz.prog 138 [.ref 70000 0,.p (.int .i64 (n:Int))] [(70000,.bldr 124 (.p .nil))] [70000] (.tup []) [(70000,.bldr 124 (.arr 70001001)),(70001001,.barr 5 false [])]:=by
 intro γ M w vs hO hnone hM hvs
 obtain ⟨b,v0,v1,hg,hh,h0,h1,h2,hm⟩:=bld_parts (id:=70000) hO rfl
 cases h1.p_inv
 cases hvs with
 | cons hx ht=>
  cases ht with
  | cons hy ht=>
  cases ht
  obtain ⟨b',hg',rfl⟩:=hx.ref_inv
  rw [hg] at hg'; cases hg'
  cases hy with | p _ _ hy=>
  cases hy with | int _ _ hi=>
  have hlt:b < w.heap.size:=hO.lo 70000 _ b (by simp [lookO]) hg rfl
  have hb:Go.Am.Handed γ [(70000,.bldr 124 (.p .nil))] b:=⟨70000,.cell b,by simp [lookO],hg,rfl⟩
  have hset:(w.setCell ⟨b,0,none⟩ (.pointer (some ⟨b,0,none⟩)))=w.setRow b #[.pointer (some ⟨b,0,none⟩),.slice none 0 0]:=by
   rw [setCell_eq_setRow w b 0 _ _ _ _ hh]; rfl
  obtain ⟨w1,hcc,hb1,hs1,ho1,hos,htp,hout⟩:∃ w1:World,(Calls Tryz.prog 110 #[.pointer (some ⟨b,0,none⟩)] w fun e w'=>e=.returned (.tuple #[])/\w'=w1)/\
   w1.heap[b]?=some (.cells #[.pointer (some ⟨b,0,none⟩),.slice none 0 0] 124 (0,0))/\w1.heap.size=w.heap.size/\(∀ c,c≠b->w1.heap[c]?=w.heap[c]?)/\w1.os=w.os/\w1.tape=w.tape/\w1.output=w.output:=by
   rcases h0 with rfl | rfl
   .refine ⟨_,cc_fresh b w (by rw [Lib.cell_of_heap hh]; rfl) (by simp [World.shape?,hh]) (Lib.frozen_of_heap hh 0),?_⟩
    rw [hset]
    exact ⟨setRow_heap w b _ _ _ _ hh,by simp,fun c hc=>setRow_other w b c _ hc,rfl,rfl,rfl⟩
   .exact ⟨w,cc_used b w (by rw [Lib.cell_of_heap hh]; rfl),hh,rfl,fun _ _=>rfl,rfl,rfl,rfl⟩
  refine (bG_fresh b n w w1 h1n hn hcc hb1).mono fun e w' ⟨he,cs,hcs,hheap,q1,q2,q3⟩=>?_
  have hrow:(w1.setCell ⟨b,1,none⟩ (.slice (some ⟨w1.heap.size,0,none⟩) 0 cs.size))=w1.setRow b #[.pointer (some ⟨b,0,none⟩),.slice (some ⟨w1.heap.size,0,none⟩) 0 cs.size]:=by
   rw [setCell_eq_setRow w1 b 1 _ _ _ _ hb1]; rfl
  rw [hrow] at hheap
  have hsz1:(w1.setRow b #[.pointer (some ⟨b,0,none⟩),.slice (some ⟨w1.heap.size,0,none⟩) 0 cs.size]).heap.size=w.heap.size:=by rw [<-hs1]; simp
  have hsz:w'.heap.size=w.heap.size+1:=by rw [hheap]; simp [hsz1]
  have hbb:w'.heap[b]?=some (.cells #[.pointer (some ⟨b,0,none⟩),.slice (some ⟨w.heap.size,0,none⟩) 0 cs.size] 124 (0,0)):=by
   rw [hheap,Lib.alloc_old _ _ b (by rw [hsz1]; exact hlt),setRow_heap w1 b _ _ _ _ hb1,hs1]
  have hnew:w'.heap[w.heap.size]?=some (.cells cs 5 (0,0)):=by
   rw [hheap,<-hsz1]; exact heap_alloc_new _ _
  have hoth:∀ c,c < w.heap.size->c≠b->w'.heap[c]?=w.heap[c]?:=fun c hc hcb=>by
   rw [hheap,Lib.alloc_old _ _ c (by rw [hsz1]; exact hc),setRow_other w1 b c _ hcb]; exact ho1 c hcb
  have hMn:∀ o,M w.heap.size o=none:=fun o=>by
   cases hv:M w.heap.size o with
   | none=>rfl
   | some v=>have:=hM _ _ _ hv; simp [World.cell?] at this
  refine ⟨_,upd γ 70001001 (some (.arr (some w.heap.size) 1 0 cs.size)),M,he,fun i hi g hgi=>?_,MLe.refl M,?_,.tup _ _ rfl (fun i hi=>absurd hi (Nat.not_lt_zero _)),⟨?_,?_,?_⟩,?_,by omega,q1.trans hos,q2.trans htp,q3.trans hout⟩
  .have:i=70000:=by simpa using hi
   subst this
   exact hgi
  .refine ⟨?_,hM.good⟩
   intro c o v hv
   have hc:c≠b:=fun e=>by subst e; rw [hm o] at hv; cases hv
   have hcl:c < w.heap.size:=by
    rcases Nat.lt_or_ge c w.heap.size with h | h
    .exact h
    .have:=hM c o v hv
     simp [World.cell?,Array.getElem?_eq_none h] at this
   rw [World.cell?_of_block (w:=w) (hoth c hcl hc)]; exact hM c o v hv
  .intro i o hi
   rcases two_look hi with ⟨rfl,rfl⟩ | ⟨rfl,rfl⟩
   .exact ⟨b,_,_,hg,hbb,.inr rfl,.arr 70001001 (some w.heap.size) 1 0 cs.size rfl,rfl,hm⟩
   .refine ⟨some w.heap.size,cs.size,rfl,⟨⟨rfl,.inr ⟨w.heap.size,cs.size,cs,rfl,Nat.zero_le _,hnew,Nat.zero_le _,hcs,by simp,by simp⟩⟩,fun v hv=>(by cases hv),Nat.zero_le _,fun g hgg=>?_⟩⟩
    cases hgg
    exact fun o=>by rw [hMn o]; rfl
  .intro i j g g' c hi hj hgi hgj hgc hgc'
   rcases two_none hi with rfl | rfl <;> rcases two_none hj with rfl | rfl
   .rfl
   .rw [show upd γ 70001001 (some (.arr (some w.heap.size) 1 0 cs.size)) 70000=γ 70000 from rfl,hg] at hgi
    cases hgi; cases hgj; cases hgc; cases hgc'
    exact absurd hlt (Nat.lt_irrefl _)
   .rw [show upd γ 70001001 (some (.arr (some w.heap.size) 1 0 cs.size)) 70000=γ 70000 from rfl,hg] at hgj
    cases hgi; cases hgj; cases hgc; cases hgc'
    exact absurd hlt (Nat.lt_irrefl _)
   .rfl
  .intro i g c hi hgi hgc
   rcases two_none hi with rfl | rfl
   .rw [show upd γ 70001001 (some (.arr (some w.heap.size) 1 0 cs.size)) 70000=γ 70000 from rfl,hg] at hgi
    cases hgi; cases hgc
    exact ⟨.inr hb,by omega⟩
   .cases hgi; cases hgc
    exact ⟨.inl (Nat.le_refl _),by omega⟩
  .intro c hc hno
   exact ⟨hoth c hc fun e=>hno (by rw [e]; exact hb),rfl⟩
def sp_grow:RSpec:=⟨[false,true],fun args ib=>match args,ib with
 | [.ref 70000 0,.p (.int .i64 n)],[(70000,.bldr 124 (.p .nil))]=>some (([70000],.tup []),([(70000,.bldr 124 (.arr 70001001)),(70001001,.barr 5 false [])],some (1<=n/\n<=281474976710656)))
 | _,_=>none⟩
theorem ok_grow:SpecROk Tryz.prog 138 sp_grow:=by
 intro args ib kept r outs ok he hok
 simp only [sp_grow] at he
 split at he
 .rename_i n
  cases he
  obtain ⟨h1,h2⟩:1<=n/\n<=281474976710656:=hok
  obtain ⟨n,rfl⟩:=Int.eq_ofNat_of_zero_le (show (0:Int)<=n by omega)
  exact ⟨by kernel_rfl,FnR_grow n (by omega) (by omega)⟩
 .cases he
end
end Go.Proofs.YtampckbjinodgaaGreatDoor
namespace Go.Proofs.YtampckbjinodgaaGreatDoor
open Go Go.Am
set_option linter.unusedVariables false
def cntS (s:List UInt8) (c:Int):Int:=((s.count c.toNat.toUInt8:Nat):Int)
def sp_extcs:List AV->Option (AV×Option Prop)
 | [.p (.str s),.p (.int .u8 c)]=>some (.p (.int .i64 (cntS s c)),none)
 | _=>none
theorem ok_extcs:SpecExt Tryz.prog 189 sp_extcs:=by
 intro zs r ok h hok M w vs hM hvs
 unfold sp_extcs at h
 split at h
 .rename_i s c
  cases h
  cases hvs with
  | cons h1 h2=>cases h2 with
   | cons h2 h3=>
    cases h3
    cases h1 with | p _ _ h1=>
    cases h2 with | p _ _ h2=>
    cases h1 with | str _ hs=>
    cases h2 with | int _ _ hc=>
    refine ⟨.int .i64 (cntS s c),?_,.p _ _ (.int _ _ ?_)⟩
    .rw [run_callFunc_extern (fn:=Tryz.f189) (e:=Extern.BytealgCount.count) (by kernel_rfl) (by kernel_rfl) (by kernel_rfl) (by kernel_rfl) (by kernel_rfl)]
     rw [Lib.run_countString]; rfl
    .have h1:=List.count_le_length (a:=c.toNat.toUInt8) (l:=s)
     exact has_i64 (by unfold maxLen at hs; unfold i64ok cntS; omega)
 .cases h
noncomputable def Gcnt:Cfg:=⟨Tryz.prog,mkEnv [(189,sp_extcs)],mkEnvR [],34,[],[],[]⟩
noncomputable def Fcnt (F:Nat) (s:List UInt8) (c:UInt8):Option Ans:=runF Gcnt Tryz.f171 F [.p (.str s),.p (.str [c])]
theorem Fcnt_eq (F:Nat) (s:List UInt8) (c:UInt8):Fcnt F s c=need (0<=(0:Int)/\(0:Int) < ([c].length:Int)) (some (.p (.int .i64 (cntS s (([c].getD ((0:Int)).toNat 0).toNat:Int))),[])):=by kernel_rfl
theorem fn_cnt (F:Nat) (s:List UInt8) (c:UInt8) (r:AV) (h:(∃ M vs,ARels γ0 M [.p (.str s),.p (.str [c])] vs)->Fcnt F s c=some (r,[])):FnP Tryz.prog 171 [.p (.str s),.p (.str [c])] r:=
 FnP_run Gcnt F rfl (EnvOk_mk (l:=[(189,sp_extcs)]) ⟨ok_extcs.any,trivial⟩) (EnvROk_mk (l:=[]) trivial) (Checked.mixed Tryz.checked) (fn:=Tryz.f171) (by kernel_rfl) (by kernel_rfl) rfl h
theorem cnt_eq (s:List UInt8) (c:UInt8):Fcnt 0 s c=some (.p (.int .i64 (cntS s (c.toNat:Int))),[]):=by
 rw [Fcnt_eq]
 exact need_mk (by simp) rfl
def sp_cnt:List AV->Option (AV×Option Prop)
 | [.p (.str s),.p (.str [c])]=>some (.p (.int .i64 (cntS s (c.toNat:Int))),none)
 | _=>none
theorem ok_cnt:SpecOk Tryz.prog 171 sp_cnt:=by
 intro zs r ok he hok
 unfold sp_cnt at he
 split at he
 .cases he; exact ⟨by kernel_rfl,fn_cnt 0 _ _ _ fun hx=>cnt_eq _ _⟩
 .cases he
noncomputable def crep:Code:=bodyOf Tryz.f145
noncomputable def Grep:Cfg:=⟨Tryz.prog,mkEnv [(101,sp_ix1),(171,sp_cnt)],mkEnvR [(76,sp_wstr),(78,sp_bstr),(138,sp_grow)],104,[],[([1,1,1],⟨[0,1,2,3],[]⟩),([0,1,0,1,0,1,1,1,1,1,1],⟨[0,1,2,10,11,52,53],[⟨.slot 10,10,.cells []⟩,⟨.cell 10 1,11001,(.barr 5 false [])⟩]⟩),([1,1,0,0,1,1,0,0,1,0,1,0,1,1,1,1,1,1],⟨[0,1,2,10,12,52,53],[⟨.slot 10,10,.cells []⟩,⟨.cell 10 1,11001,(.barr 5 false [])⟩]⟩),([1,1,1,1,1,1,1],⟨[0,10,11],[⟨.slot 10,10,.cells []⟩,⟨.cell 10 1,11001,(.barr 5 false [])⟩]⟩)],[([0,1,1,1,1],[10]),([0,1,0,0,1,1,0,0,1,0,1,0,1,1,1,1,1,1],[4]),([0,1,1,0,0,1,1,0,0,1,0,1,0,1,1,1,1,1,1],[1]),([0,1,1,1,1,1,1,1],[3]),([0,1,1,1,1,1,1,1,1],[0])]⟩
noncomputable def Brep_1 (F:Nat) (s:List UInt8) (c d:UInt8) (vi1:Int):Option Ans:=runB Grep crep (kP Tryz.prog Tryz.f145.results.toList) F [] [1,1,1] [(0,.p (.str s)),(1,.p (.str [c])),(2,.p (.str [d])),(3,.p (.int .i64 vi1))] []
noncomputable def Brep_2 (F f1:Nat) (s:List UInt8) (c d:UInt8) (vi2 vi1 vi3:Int) (vb4:List UInt8):Option Ans:=runR Grep crep (kP Tryz.prog Tryz.f145.results.toList) F [] [1,1,1,1,1,1,0,1,0,1,0] f1 [(0,.p (.str s)),(1,.p (.str [c])),(2,.p (.str [d])),(10,.ref 10 0),(11,.p (.int .i64 vi2)),(52,.p (.int .i64 vi1)),(53,.p (.int .i64 vi3))] [(10,.bldr 124 (.arr 11001)),(11001,.barr 5 false vb4)]
noncomputable def Brep_3 (F f1:Nat) (s:List UInt8) (c d:UInt8) (vi5 vi1 vi3:Int) (vb6:List UInt8):Option Ans:=runB Grep crep (kP Tryz.prog Tryz.f145.results.toList) F [f1] [1,1,1,1,1,1,0,1,0,1,0,0,1,1,0,0,1,1] [(0,.p (.str s)),(1,.p (.str [c])),(2,.p (.str [d])),(10,.ref 10 0),(12,.p (.int .i64 vi5)),(52,.p (.int .i64 vi1)),(53,.p (.int .i64 vi3))] [(10,.bldr 124 (.arr 11001)),(11001,.barr 5 false vb6)]
noncomputable def Brep_4 (F:Nat) (s:List UInt8) (vi7:Int) (vb8:List UInt8):Option Ans:=runB Grep crep (kP Tryz.prog Tryz.f145.results.toList) F [] [1,1,1,1,1,1,1] [(0,.p (.str s)),(10,.ref 10 0),(11,.p (.int .i64 vi7))] [(10,.bldr 124 (.arr 11001)),(11001,.barr 5 false vb8)]
noncomputable def Frep (F:Nat) (s:List UInt8) (c d:UInt8):Option Ans:=runF Grep Tryz.f145 F [.p (.str s),.p (.str [c]),.p (.str [d]),.p (.int .i64 (-1:Int))]
theorem Brep_1_eq (F:Nat) (s:List UInt8) (c d:UInt8) (vi1:Int):Brep_1 F s c d vi1=need (i64ok ((1:Int) - (1:Int))) (need (i64ok (vi1 * ((1:Int) - (1:Int)))) (need (i64ok ((s.length:Int)+(vi1 * ((1:Int) - (1:Int))))) (need (1<=((s.length:Int)+(vi1 * ((1:Int) - (1:Int))))/\((s.length:Int)+(vi1 * ((1:Int) - (1:Int))))<=281474976710656) (Brep_2 F F s c d (0:Int) vi1 (0:Int) ([]:List UInt8))))):=by kernel_rfl
theorem Brep_2_eq (F f1:Nat) (s:List UInt8) (c d:UInt8) (vi2 vi1 vi3:Int) (vb4:List UInt8):Brep_2 F (f1+1) s c d vi2 vi1 vi3 vb4=cond (decide (vi3 < vi1)) (need (0<=vi2/\vi2<=(s.length:Int)) (need (i64ok (vi2+(ixS (s.drop (vi2).toNat) (c.toNat:Int)))) (need (0<=vi2/\vi2<=(vi2+(ixS (s.drop (vi2).toNat) (c.toNat:Int)))/\(vi2+(ixS (s.drop (vi2).toNat) (c.toNat:Int)))<=(s.length:Int)) (need (vb4.length+((s.take (vi2+(ixS (s.drop (vi2).toNat) (c.toNat:Int))).toNat).drop (vi2).toNat).length<=140737488355328) (Brep_3 F f1 s c d (vi2+(ixS (s.drop (vi2).toNat) (c.toNat:Int))) vi1 vi3 (vb4++((s.take (vi2+(ixS (s.drop (vi2).toNat) (c.toNat:Int))).toNat).drop (vi2).toNat))))))) (Brep_4 F s vi2 vb4):=by kernel_rfl
theorem Brep_3_eq (F f1:Nat) (s:List UInt8) (c d:UInt8) (vi5 vi1 vi3:Int) (vb6:List UInt8):Brep_3 F f1 s c d vi5 vi1 vi3 vb6=need (vb6.length+[d].length<=140737488355328) (need (i64ok (vi5+(1:Int))) (need (i64ok (vi3+(1:Int))) (Brep_2 F f1 s c d (vi5+(1:Int)) vi1 (vi3+(1:Int)) (vb6++[d])))):=by kernel_rfl
theorem Brep_4_eq (F:Nat) (s:List UInt8) (vi7:Int) (vb8:List UInt8):Brep_4 F s vi7 vb8=need (0<=vi7/\vi7<=(s.length:Int)) (need (vb8.length+(s.drop (vi7).toNat).length<=140737488355328) (some (.p (.str (vb8++(s.drop (vi7).toNat))),[]))):=by kernel_rfl
theorem Frep_eq (F:Nat) (s:List UInt8) (c d:UInt8):Frep F s c d=((cond (([c]==[d])||false) (some (.p (.str s),[])) (cond ((cntS s (c.toNat:Int))==(0:Int)) (some (.p (.str s),[])) ((((cond (true||(decide ((cntS s (c.toNat:Int)) < (-1:Int)))) (Brep_1 F s c d (cntS s (c.toNat:Int))) (Brep_1 F s c d (-1:Int))))))))):=by
 have h:Frep F s c d=need ((!([c]==[d]))=true->(!([c]==[d]))=true) (need (([c]==[d])=false->(!([c]==[d]))=true) (cond (([c]==[d])||false) (some (.p (.str s),[])) (cond ((cntS s (c.toNat:Int))==(0:Int)) (some (.p (.str s),[])) (need ((!true)=true->(!true)=true) (need ((!true)=true->(!true)=true) (need (true=false->(!true)=true) (cond (true||(decide ((cntS s (c.toNat:Int)) < (-1:Int)))) (Brep_1 F s c d (cntS s (c.toNat:Int))) (Brep_1 F s c d (-1:Int))))))))):=by kernel_rfl
 rw [h,need_pos (show true=false->(!true)=true from (fun q0=>(not_mk q0))),need_pos (show (!true)=true->(!true)=true from (fun q0=>q0)),need_pos (show (!true)=true->(!true)=true from (fun q0=>q0)),need_pos (show ([c]==[d])=false->(!([c]==[d]))=true from (fun q0=>(not_mk q0))),need_pos (show (!([c]==[d]))=true->(!([c]==[d]))=true from (fun q0=>q0))]
theorem fn_rep (F:Nat) (s:List UInt8) (c d:UInt8) (r:AV) (h:(∃ M vs,ARels γ0 M [.p (.str s),.p (.str [c]),.p (.str [d]),.p (.int .i64 (-1:Int))] vs)->Frep F s c d=some (r,[])):FnP Tryz.prog 145 [.p (.str s),.p (.str [c]),.p (.str [d]),.p (.int .i64 (-1:Int))] r:=
 FnP_run Grep F rfl (EnvOk_mk (l:=[(101,sp_ix1),(171,sp_cnt)]) ⟨ok_ix1.any,ok_cnt.any,trivial⟩) (EnvROk_mk (l:=[(76,sp_wstr),(78,sp_bstr),(138,sp_grow)]) ⟨ok_wstr,ok_bstr,ok_grow,trivial⟩) (Checked.mixed Tryz.checked) (fn:=Tryz.f145) (by kernel_rfl) (by kernel_rfl) rfl h
def repS (s:List UInt8) (c d:UInt8):List UInt8:=s.map fun x=>if x=c then d else x
theorem rep_none {s:List UInt8} {c d:UInt8} (h:s.count c=0):repS s c d=s:=by
 unfold repS
 rw [List.count_eq_zero] at h
 induction s with
 | nil=>rfl
 | cons x r ih=>
  simp only [List.mem_cons,not_or] at h
  rw [List.map_cons,if_neg (fun e=>h.1 e.symm),ih h.2]
theorem first_at (c:UInt8):∀ {r:List UInt8} {k:Nat},r.count c=k+1->∃ p q,r=p++c::q/\p.count c=0/\q.count c=k/\Lib.indexByte r c=p.length
 | [],k,h=>by simp at h
 | x::r,k,h=>by
  by_cases e:x=c
  .subst e
   refine ⟨[],r,rfl,rfl,by simpa using h,?_⟩
   simp [Lib.indexByte]
  .rw [List.count_cons_of_ne e] at h
   obtain ⟨p,q,h1,h2,h3,h4⟩:=first_at c h
   refine ⟨x::p,q,by rw [h1]; rfl,by rw [List.count_cons_of_ne e]; exact h2,h3,?_⟩
   have hne:¬ (x==c)=true:=by simpa using e
   rw [Lib.indexByte,if_neg hne,h4,if_neg (by simp)]
   simp only [List.length_cons]; omega
theorem rep_app (a b:List UInt8) (c d:UInt8):repS (a++b) c d=repS a c d++repS b c d:=by simp [repS]
theorem Brep_spec (F:Nat) (s:List UInt8) (c d:UInt8) (hs:s.length<=1000000) (K:Nat):∀ (k f start i:Nat) (acc:List UInt8),(s.drop start).count c=k->k < f->start<=s.length->i+k=K->K<=1000000->acc.length<=start->
 Brep_2 F f s c d (start:Int) (K:Int) (i:Int) acc=some (.p (.str (acc++repS (s.drop start) c d)),[]):=by
 intro k
 induction k with
 | zero=>
  intro f start i acc hk hf hst hi hK ha
  cases f with
  | zero=>omega
  | succ f=>
   rw [Brep_2_eq]
   refine cond_f (by first | omega | (unfold i64ok; omega) | (simp only [List.length_cons,List.length_nil]; omega) | (simp; omega) | simp) ?_
   rw [Brep_4_eq]
   refine need_mk (by first | omega | (unfold i64ok; omega) | (simp only [List.length_cons,List.length_nil]; omega) | (simp; omega) | simp) ?_
   rw [show ((start:Int)).toNat=start from rfl]
   refine need_mk (by simp; omega) ?_
   rw [rep_none hk]
 | succ k ih=>
  intro f start i acc hk hf hst hi hK ha
  cases f with
  | zero=>omega
  | succ f=>
   obtain ⟨p,q,h1,h2,h3,h4⟩:=first_at c hk
   have hix:ixS (s.drop start) (c.toNat:Int)=(p.length:Int):=by unfold ixS; rw [u8c]; exact h4
   have hlen:s.length=start+p.length+1+q.length:=by
    have:=congrArg List.length h1
    simp at this; omega
   have htk:(s.take (start+p.length)).drop start=p:=by
    rw [List.drop_take,Nat.add_sub_cancel_left,h1,List.take_left']; rfl
   have hq:s.drop (start+p.length+1)=q:=by
    rw [Nat.add_assoc,<-List.drop_drop,h1]
    rw [List.drop_append,List.drop_eq_nil_of_le (by omega)]
    simp
   have e1:((start:Int)+(p.length:Int)).toNat=start+p.length:=by omega
   rw [Brep_2_eq]
   refine cond_t (by first | omega | (unfold i64ok; omega) | (simp only [List.length_cons,List.length_nil]; omega) | (simp; omega) | simp) ?_
   refine need_mk (by first | omega | (unfold i64ok; omega) | (simp only [List.length_cons,List.length_nil]; omega) | (simp; omega) | simp) ?_
   rw [show ((start:Int)).toNat=start from rfl,hix]
   refine need_mk (by first | omega | (unfold i64ok; omega) | (simp only [List.length_cons,List.length_nil]; omega) | (simp; omega) | simp) ?_
   refine need_mk (by first | omega | (unfold i64ok; omega) | (simp only [List.length_cons,List.length_nil]; omega) | (simp; omega) | simp) ?_
   rw [e1,htk]
   refine need_mk (by first | omega | (unfold i64ok; omega) | (simp only [List.length_cons,List.length_nil]; omega) | (simp; omega) | simp) ?_
   rw [Brep_3_eq]
   refine need_mk (by simp; omega) ?_
   refine need_mk (by first | omega | (unfold i64ok; omega) | (simp only [List.length_cons,List.length_nil]; omega) | (simp; omega) | simp) ?_
   refine need_mk (by first | omega | (unfold i64ok; omega) | (simp only [List.length_cons,List.length_nil]; omega) | (simp; omega) | simp) ?_
   have e2:(start:Int)+(p.length:Int)+1=((start+p.length+1:Nat):Int):=by omega
   have e3:(i:Int)+1=((i+1:Nat):Int):=by omega
   rw [e2,e3,ih f (start+p.length+1) (i+1) (acc++p++[d]) (by rw [hq]; exact h3) (by omega) (by omega) (by omega) hK (by simp; omega)]
   rw [hq,h1,rep_app,rep_none h2]
   congr 4
   simp [repS]
theorem rep_eq (s:List UInt8) (c d:UInt8) (hs:s.length<=1000000):Frep (s.length+1) s c d=some (.p (.str (repS s c d)),[]):=by
 rw [Frep_eq]
 by_cases hcd:c=d
 .refine cond_t (by simp [hcd]) ?_
  subst hcd
  have:repS s c c=s:=by
   unfold repS
   conv=>rhs; rw [<-List.map_id s]
   exact List.map_congr_left fun x _=>by split <;> simp_all
  rw [this]
 .refine cond_f (by simp [hcd]) ?_
  have hc:cntS s (c.toNat:Int)=(s.count c:Int):=by unfold cntS; rw [u8c]
  rw [hc]
  have hle:=List.count_le_length (a:=c) (l:=s)
  by_cases h0:s.count c=0
  .refine cond_t (by simp [h0]) ?_
   rw [rep_none h0]
  .refine cond_f (by simpa using h0) (cond_t rfl ?_)
   rw [Brep_1_eq]
   refine need_mk (by first | omega | (unfold i64ok; omega) | (simp only [List.length_cons,List.length_nil]; omega) | (simp; omega) | simp) ?_
   refine need_mk (by first | omega | (unfold i64ok; omega) | (simp only [List.length_cons,List.length_nil]; omega) | (simp; omega) | simp) ?_
   refine need_mk (by first | omega | (unfold i64ok; omega) | (simp only [List.length_cons,List.length_nil]; omega) | (simp; omega) | simp) ?_
   refine need_mk (by first | omega | (unfold i64ok; omega) | (simp only [List.length_cons,List.length_nil]; omega) | (simp; omega) | simp) ?_
   exact Brep_spec _ s c d hs (s.count c) (s.count c) (s.length+1) 0 0 [] rfl (by omega) (by omega) (by omega) (by omega) (by simp)
def sp_rep:List AV->Option (AV×Option Prop)
 | [.p (.str s),.p (.str [c]),.p (.str [d]),.p (.int .i64 (-1:Int))]=>some (.p (.str (repS s c d)),some (s.length<=1000000))
 | _=>none
theorem ok_rep:SpecOk Tryz.prog 145 sp_rep:=by
 intro zs r ok he hok
 unfold sp_rep at he
 split at he
 .cases he; exact ⟨by kernel_rfl,fn_rep (_) _ _ _ _ fun hx=>rep_eq _ _ _ hok⟩
 .cases he
noncomputable def Grepa:Cfg:=⟨Tryz.prog,mkEnv [(145,sp_rep)],mkEnvR [],11,[],[],[]⟩
noncomputable def Frepa (F:Nat) (s:List UInt8) (c d:UInt8):Option Ans:=runF Grepa Tryz.f116 F [.p (.str s),.p (.str [c]),.p (.str [d])]
theorem Frepa_eq (F:Nat) (s:List UInt8) (c d:UInt8):Frepa F s c d=need (s.length<=1000000) (some (.p (.str (repS s c d)),[])):=by kernel_rfl
theorem fn_repa (F:Nat) (s:List UInt8) (c d:UInt8) (r:AV) (h:(∃ M vs,ARels γ0 M [.p (.str s),.p (.str [c]),.p (.str [d])] vs)->Frepa F s c d=some (r,[])):FnP Tryz.prog 116 [.p (.str s),.p (.str [c]),.p (.str [d])] r:=
 FnP_run Grepa F rfl (EnvOk_mk (l:=[(145,sp_rep)]) ⟨ok_rep.any,trivial⟩) (EnvROk_mk (l:=[]) trivial) (Checked.mixed Tryz.checked) (fn:=Tryz.f116) (by kernel_rfl) (by kernel_rfl) rfl h
theorem repa_eq (s:List UInt8) (c d:UInt8) (hs:s.length<=1000000):Frepa 0 s c d=some (.p (.str (repS s c d)),[]):=by
 rw [Frepa_eq]; exact need_pos hs
def sp_repa:List AV->Option (AV×Option Prop)
 | [.p (.str s),.p (.str [c]),.p (.str [d])]=>some (.p (.str (repS s c d)),some (s.length<=1000000))
 | _=>none
theorem ok_repa:SpecOk Tryz.prog 116 sp_repa:=by
 intro zs r ok he hok
 unfold sp_repa at he
 split at he
 .cases he; exact ⟨by kernel_rfl,fn_repa 0 _ _ _ _ fun hx=>repa_eq _ _ _ hok⟩
 .cases he
end Go.Proofs.YtampckbjinodgaaGreatDoor
namespace Go.Proofs.YtampckbjinodgaaGreatDoor
open Go Go.Am
set_option linter.unusedVariables false
noncomputable def Ghpl:Cfg:=⟨Tryz.prog,mkEnv [],mkEnvR [],18,[],[],[]⟩
noncomputable def Fhpl (F:Nat) (s p:List UInt8):Option Ans:=runF Ghpl Tryz.f143 F [.p (.str s),.p (.str p)]
theorem Fhpl_eq (F:Nat) (s p:List UInt8):Fhpl F s p=(((need ((decide ((s.length:Int)>=(p.length:Int)))=true->0<=(p.length:Int)/\(p.length:Int)<=(s.length:Int)) ((((some (.p (.bool ((decide ((s.length:Int)>=(p.length:Int)))&&((s.take ((p.length:Int)).toNat)==p))),[])))))))):=by
 have h:Fhpl F s p=need ((decide ((s.length:Int)>=(p.length:Int)))=true->(decide ((s.length:Int)>=(p.length:Int)))=true) (need ((decide ((s.length:Int)>=(p.length:Int)))=true->(decide ((s.length:Int)>=(p.length:Int)))=true) (need ((decide ((s.length:Int)>=(p.length:Int)))=true->(decide ((s.length:Int)>=(p.length:Int)))=true) (need ((decide ((s.length:Int)>=(p.length:Int)))=true->0<=(p.length:Int)/\(p.length:Int)<=(s.length:Int)) (need ((decide ((s.length:Int)>=(p.length:Int)))=true->(decide ((s.length:Int)>=(p.length:Int)))=true) (need ((decide ((s.length:Int)>=(p.length:Int)))=true->(decide ((s.length:Int)>=(p.length:Int)))=true) (need ((decide ((s.length:Int)>=(p.length:Int)))=true->(decide ((s.length:Int)>=(p.length:Int)))=true) (some (.p (.bool ((decide ((s.length:Int)>=(p.length:Int)))&&((s.take ((p.length:Int)).toNat)==p))),[])))))))):=by kernel_rfl
 rw [h,need_pos (show (decide ((s.length:Int)>=(p.length:Int)))=true->(decide ((s.length:Int)>=(p.length:Int)))=true from (fun q0=>q0)),need_pos (show (decide ((s.length:Int)>=(p.length:Int)))=true->(decide ((s.length:Int)>=(p.length:Int)))=true from (fun q0=>q0)),need_pos (show (decide ((s.length:Int)>=(p.length:Int)))=true->(decide ((s.length:Int)>=(p.length:Int)))=true from (fun q0=>q0)),need_pos (show (decide ((s.length:Int)>=(p.length:Int)))=true->(decide ((s.length:Int)>=(p.length:Int)))=true from (fun q0=>q0)),need_pos (show (decide ((s.length:Int)>=(p.length:Int)))=true->(decide ((s.length:Int)>=(p.length:Int)))=true from (fun q0=>q0)),need_pos (show (decide ((s.length:Int)>=(p.length:Int)))=true->(decide ((s.length:Int)>=(p.length:Int)))=true from (fun q0=>q0))]
theorem fn_hpl (F:Nat) (s p:List UInt8) (r:AV) (h:(∃ M vs,ARels γ0 M [.p (.str s),.p (.str p)] vs)->Fhpl F s p=some (r,[])):FnP Tryz.prog 143 [.p (.str s),.p (.str p)] r:=
 FnP_run Ghpl F rfl (EnvOk_mk (l:=[]) trivial) (EnvROk_mk (l:=[]) trivial) (Checked.mixed Tryz.checked) (fn:=Tryz.f143) (by kernel_rfl) (by kernel_rfl) rfl h
def hasP (s p:List UInt8):Bool:=s.take p.length==p
theorem hpl_eq (s p:List UInt8):Fhpl 0 s p=some (.p (.bool (hasP s p)),[]):=by
 rw [Fhpl_eq]
 refine need_mk (fun h=>⟨by omega,by simpa using h⟩) ?_
 rw [show ((p.length:Int)).toNat=p.length from rfl]
 by_cases h:p.length<=s.length
 .rw [show decide ((s.length:Int)>=(p.length:Int))=true by simpa using h]; rfl
 .rw [show decide ((s.length:Int)>=(p.length:Int))=false by simpa using h,Bool.false_and]
  have:hasP s p=false:=by
   unfold hasP
   rw [beq_eq_false_iff_ne]
   intro e
   have:=congrArg List.length e
   simp at this; omega
  rw [this]
def sp_hpl:List AV->Option (AV×Option Prop)
 | [.p (.str s),.p (.str p)]=>some (.p (.bool (hasP s p)),none)
 | _=>none
theorem ok_hpl:SpecOk Tryz.prog 143 sp_hpl:=by
 intro zs r ok he hok
 unfold sp_hpl at he
 split at he
 .cases he; exact ⟨by kernel_rfl,fn_hpl 0 _ _ _ fun hx=>hpl_eq _ _⟩
 .cases he
noncomputable def Ghp:Cfg:=⟨Tryz.prog,mkEnv [(143,sp_hpl)],mkEnvR [],8,[],[],[]⟩
noncomputable def Fhp (F:Nat) (s p:List UInt8):Option Ans:=runF Ghp Tryz.f112 F [.p (.str s),.p (.str p)]
theorem Fhp_eq (F:Nat) (s p:List UInt8):Fhp F s p=some (.p (.bool (hasP s p)),[]):=by kernel_rfl
theorem fn_hp (F:Nat) (s p:List UInt8) (r:AV) (h:(∃ M vs,ARels γ0 M [.p (.str s),.p (.str p)] vs)->Fhp F s p=some (r,[])):FnP Tryz.prog 112 [.p (.str s),.p (.str p)] r:=
 FnP_run Ghp F rfl (EnvOk_mk (l:=[(143,sp_hpl)]) ⟨ok_hpl.any,trivial⟩) (EnvROk_mk (l:=[]) trivial) (Checked.mixed Tryz.checked) (fn:=Tryz.f112) (by kernel_rfl) (by kernel_rfl) rfl h
theorem hp_eq (s p:List UInt8):Fhp 0 s p=some (.p (.bool (hasP s p)),[]):=by rw [Fhp_eq]
def sp_hp:List AV->Option (AV×Option Prop)
 | [.p (.str s),.p (.str p)]=>some (.p (.bool (hasP s p)),none)
 | _=>none
theorem ok_hp:SpecOk Tryz.prog 112 sp_hp:=by
 intro zs r ok he hok
 unfold sp_hp at he
 split at he
 .cases he; exact ⟨by kernel_rfl,fn_hp 0 _ _ _ fun hx=>hp_eq _ _⟩
 .cases he
end Go.Proofs.YtampckbjinodgaaGreatDoor
