/-
  ROW: SeekSorts. The frame is the guide's shell's; the walk is the lifted contract.
-/
import Derived.Test.YtampckbjinodgaaGreatDoorRows
import Derived.Test.YtampckbjinodgaaGreatDoorC24
import Derived.Test.YtampckbjinodgaaGreatDoorAmC
import Derived.Test.YtampckbjinodgaaGreatDoorC25
import Derived.Test.YtampckbjinodgaaGreatDoorTie
import Derived.Test.YtampckbjinodgaaGreatDoorCards
import Derived.Lay
import Derived.MakeChecks
import Derived.LaidHandle
import Derived.Stop.Joined
import Derived.SevenTiedAt
import Derived.WalkKit
import Derived.ProofKit
import Derived.OpenShut
import Derived.ShutString
namespace Go.Proofs.YtampckbjinodgaaGreatDoor.seekSorts
open Go.Am Go.ChangeShapes Go.WideShapes Go.ChangeAt Go.RowKit
open Go.ChangeMaps (open_string shut_string)
set_option linter.unusedVariables false
theorem own:ownKnob Tryz.prog.godebug=none:=by kernel_rfl
theorem laidOut:laidOutB Tryz.prog=true:=by kernel_rfl
def laid2:List (String×DataW Unit):=[("unicode/utf8.acceptRanges",Rows.laid_unicode_utf8_acceptRanges),("unicode/utf8.first",Rows.laid_unicode_utf8_first)]
theorem door_met (os:Os) (args:Array Value):laidMetH Tryz.prog laid2 ((World.laidAll Tryz.prog os laid2).forCall (fun _ _=>0) ⟨#[],args,[]⟩).memory:=
 by rw [MakeChecks.laidMetH_plain _ _ _ (by kernel_rfl)]; exact laidMet_laidAll _ (by kernel_rfl) (by kernel_rfl)
set_option maxRecDepth 100000 in
theorem lifted (os:Os) (started:os.Started) (H:Type) (enc:TypeId×Value->H):
 ReturnsInHanded {} Tryz.checked os 8 .any (fun w args=>(Rows.seekSortsSpec.pre enc Tryz.prog Tryz.f8 [] false w args/\laidMetH Tryz.prog laid2 w)/\sizedMet enc Tryz.prog Tryz.f8 (OpenSpec.ofChange Rows.seekSortsSpec) false w args) (Rows.seekSortsSpec.post enc Tryz.prog Tryz.f8 false true false false):=by
 refine returns_shaped (C:=Tryz.checked) (X:=fun w _=>laidMetH Tryz.prog laid2 w) own started (by kernel_rfl) Tryz.func8
  (ChangeSpec.witness_shaped (enc:=enc) (C:=Tryz.checked) (os:=os) (X:=fun w _=>laidMetH Tryz.prog laid2 w) false (World.laidAll Tryz.prog os laid2) #[.slice none 0 0,.slice none 0 0,.bool false] 8 (World.laidAll_os _ _ _) (World.shaped_of_ZipB (by kernel_rfl) (by kernel_rfl)) (by kernel_rfl) (by kernel_rfl) (by kernel_rfl) (door_met os _)) ?_
 intro W base args ds gs before hsh hX hval0 hW hz
 have hval:∀ (j:Nat) t v,Tryz.f8.params[j]?=some t->args[j]?=some v->Value.okWide Tryz.prog W .any base t v:=hval0
 have hW':=hW
 obtain ⟨p,q,hA0,hV,rfl,hfz,hnd⟩:=hW
 have hA:DataW.TrodAll enc Tryz.prog W 0 (fun _=>true) true Tryz.f8.params.toList args.toList ds p:=hA0
 rw [Tryz.params8] at hA hval hz
 obtain ⟨v0,vs0,d0,ds0,p0,q0,hargs,rfl,rfl,h0,r0⟩:=trodAll_cons hA
 obtain ⟨v1,vs1,d1,ds1,p1,q1,rfl,rfl,rfl,h1,r1⟩:=trodAll_cons r0
 obtain ⟨v2,vs2,d2,ds2,p2,q2,rfl,rfl,rfl,h2,r2⟩:=trodAll_cons r1
 obtain ⟨rfl,rfl,rfl⟩:=trodAll_nil r2
 obtain rfl:args=#[v0,v1,v2]:=by cases args; simp_all
 obtain ⟨rfl,rfl⟩:=trodVars_none hV
 have hlt:=hW'.lt
 have h0k:=h0
 have h1k:=h1
 obtain ⟨x0,k0,bb0,nn0⟩:=open_list (a:=.int .u8) Tryz.underlying34 (by kernel_rfl) (.int (by kernel_rfl)) (hval 0 34 v0 rfl rfl) h0
 obtain ⟨x1,k1,z1⟩:=open_listN (a:=.pair (.int .i64) (.pair (.int .i64) (.pair (.str) (.pair (.str) (.pair (.list (.pair (.int .i64) (.int .i64))) (.list (.int .i64))))))) Tryz.underlying22 (by kernel_rfl) (.struct Tryz.underlying39 rfl (by kernel_rfl) (.cons rfl (by kernel_rfl) (.int (by kernel_rfl)) rfl (.cons rfl (by kernel_rfl) (.int (by kernel_rfl)) rfl (.cons rfl (by kernel_rfl) (.str (by kernel_rfl)) rfl (.cons rfl (by kernel_rfl) (.str (by kernel_rfl)) rfl (.cons rfl (by kernel_rfl) (.list Tryz.underlying36 (by kernel_rfl) (by decide) (.struct Tryz.underlying47 rfl (by kernel_rfl) (.cons rfl (by kernel_rfl) (.int (by kernel_rfl)) rfl (.last rfl (by kernel_rfl) (.int (by kernel_rfl)))))) rfl (.last rfl (by kernel_rfl) (.list Tryz.underlying37 (by kernel_rfl) (by decide) (.int (by kernel_rfl)))))))))) (hval 1 22 v1 rfl rfl) h1
 obtain ⟨x2,rfl,rfl,rfl⟩:=open_bool Tryz.underlying4 (hval 2 4 v2 rfl rfl) h2
 have b0:∀ x ∈ x0,∀ n ∈ lensB (.int .u8) x,n<=reachBytes:=fun x hx n hn=>of_decide_eq_true (List.all_eq_true.1 hz n (weightsEach_mem (i:=0) rfl rfl (bb0 x hx n hn)))
 have n0:x0≠[]->∃ m,x0.length<=m/\m * Tryz.prog.bytesOf 5<=reachBytes:=fun h=>let ⟨m,h1,h2⟩:=nn0 h; ⟨m,h1,of_decide_eq_true (List.all_eq_true.1 hz _ (weightsEach_mem (i:=0) rfl rfl h2))⟩
 clear hA0 hval0
 refine (walk_of_FnP2 (f:=8) (args:=[.p (.list (wid (.int .u8)) (.dat (.int .u8) x0)),.p (.list (wid (.pair (.int .i64) (.pair (.int .i64) (.pair (.str) (.pair (.str) (.pair (.list (.pair (.int .i64) (.int .i64))) (.list (.int .i64)))))))) (.dat (.pair (.int .i64) (.pair (.int .i64) (.pair (.str) (.pair (.str) (.pair (.list (.pair (.int .i64) (.int .i64))) (.list (.int .i64))))))) x1)),.p (.bool x2)]) (fn_sortsT x0 x1 x2) W (fun g hg=>by obtain rfl:g=0:=List.mem_singleton.1 hg; exact Go.Proofs.cell_of_shapedOpen_int (zero:=#[.int .i64 0]) (t:=3) hsh (of_decide_eq_true (by kernel_rfl)) (by kernel_rfl) rfl (by kernel_rfl) (by kernel_rfl) Tryz.underlying3) (fun _ h=>absurd h List.not_mem_nil) (.cons k0 (.cons k1 (.cons (bool_argM _ x2) .nil)))).mono fun e W' ⟨he,hg⟩=>?_
 subst he
 exact ⟨_,rfl,post_of_below (pa:=(p0++(p1++([]++[])))) (pv:=[]) hW' (fun _ _ _=>(trodAll_cons_mk (shut_bool Tryz.underlying4 _) trodAll_mk0)) (fun sp hsp=>(trodAll_cons_mk (Go.WideElems.Trod_stays laidOut (by kernel_rfl) (of_decide_eq_true (by kernel_rfl)) h0k (fun x hx=>hg.same (hlt x (by simp [hx]))) (fun x hx=>hsp x (by simp [hx]))) (trodAll_cons_mk (Go.WideElems.Trod_stays laidOut (by kernel_rfl) (of_decide_eq_true (by kernel_rfl)) h1k (fun x hx=>hg.same (hlt x (by simp [hx]))) (fun x hx=>hsp x (by simp [hx]))) (trodAll_cons_mk (shut_bool Tryz.underlying4 x2) trodAll_mk0)))) (fun _ _=>rfl) rfl
  hg (RowKit.ok_one (by kernel_rfl) rfl (okWide_bool_mk Tryz.underlying4 _))⟩
theorem over:Rows.seekSortsRow.holds Tryz.pinned (OpenSpec.ofChange Rows.seekSortsSpec):=
 OpenClaim.holds_of_wide 8 Tryz.f8 rfl rfl rfl rfl rfl rfl rfl ⟨rfl,rfl,rfl,rfl,rfl⟩ rfl rfl rfl rfl rfl (by kernel_rfl) Tryz.func8 (by kernel_rfl)
  (of_decide_eq_true (by kernel_rfl)) (by unfold Func.isWrapper; first | (rw [if_pos (by decide+kernel)]; kernel_rfl) | (rw [if_neg (by decide+kernel)]; exact ⟨rfl,rfl⟩))
  (fun os started H enc _=>lifted os started H enc)
theorem proved:Rows.SeekSortsCardSaid:=
 Claim7.holds_tied_plain_at .later [] [.data,.pinned] true (true, "8e2a9972be6b11311d427d95e051dc8f61394c1ad94614f72db94521fbfbf98d") true
  over (fun _ h=>by cases h) (by kernel_rfl) (fun _ h=>by cases h) seekSorts_row_tie rfl ⟨rfl,rfl⟩ (by kernel_rfl) rfl
  (fun f fn hf hfn=>by
   obtain rfl:f=8:=Option.some.inj ((show Tryz.prog.funcNamed "pillarbox/pillarboxlaw19.SeekSorts"=some 8 by kernel_rfl).symm.trans hf) |>.symm
   obtain rfl:fn=Tryz.f8:=(Option.some.inj (Tryz.func8.symm.trans hfn)).symm
   exact ⟨by kernel_rfl,fun j t ht=>by
    rw [Tryz.params8] at ht
    have hm:t ∈ [34,22,4]:=by simpa using Array.mem_of_getElem? ht
    have hall:([34,22,4].all fun u=>!Tryz.prog.wantsStandIn u)=true:=by kernel_rfl
    exact (show Tryz.prog.wantsStandIn t=false by simpa using List.all_eq_true.1 hall t hm)⟩)
  (by kernel_rfl)
end Go.Proofs.YtampckbjinodgaaGreatDoor.seekSorts
