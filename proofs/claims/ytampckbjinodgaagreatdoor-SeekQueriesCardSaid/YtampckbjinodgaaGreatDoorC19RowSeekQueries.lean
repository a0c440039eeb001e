/-
  ROW: SeekQueries. The frame is the guide's shell's; the walk is the lifted contract.
-/
import Derived.Test.YtampckbjinodgaaGreatDoorRows
import Derived.Test.YtampckbjinodgaaGreatDoorC22
import Derived.Test.YtampckbjinodgaaGreatDoorAmC
import Derived.Test.YtampckbjinodgaaGreatDoorTie
import Derived.Test.YtampckbjinodgaaGreatDoorCards
import Derived.Lay
import Derived.MakeChecks
import Derived.LaidHandle
import Derived.Stop.Joined
import Derived.SevenTiedAt
import Derived.WalkKit
import Derived.ProofKit
import Derived.OpenShut
import Derived.ShutString
set_option linter.unusedVariables false
noncomputable section
namespace Go.Proofs.YtampckbjinodgaaGreatDoor.seekQueries
open Go.Am Go.ChangeShapes Go.WideShapes Go.ChangeAt Go.RowKit
open Go.ChangeMaps (open_string shut_string)
theorem own:ownKnob Tryz.prog.godebug=none:=by kernel_rfl
theorem laidOut:laidOutB Tryz.prog=true:=by kernel_rfl
def zsS:List (String×DataW Unit):=[("unicode/utf8.acceptRanges",Rows.laid_unicode_utf8_acceptRanges),("unicode/utf8.first",Rows.laid_unicode_utf8_first)]
theorem door_met(os:Os)(args:Array Value):laidMetH Tryz.prog zsS ((World.laidAll Tryz.prog os zsS).forCall (fun _ _=>0) ⟨#[],args,[]⟩).memory:=
 by rw[MakeChecks.laidMetH_plain _ _ _ (by kernel_rfl)];exact laidMet_laidAll _ (by kernel_rfl) (by kernel_rfl)
set_option maxRecDepth 100000 in
theorem lifted(os:Os)(started:os.Started)(H:Type)(enc:TypeId×Value->H):
 ReturnsInHanded {} Tryz.checked os 7 .any (fun w args=>(Rows.seekQueriesSpec.pre enc Tryz.prog Tryz.f7 [] false w args/\laidMetH Tryz.prog zsS w)/\sizedMet enc Tryz.prog Tryz.f7 (OpenSpec.ofChange Rows.seekQueriesSpec) false w args) (Rows.seekQueriesSpec.post enc Tryz.prog Tryz.f7 false true false false):=by
 refine zo9 (C:=Tryz.checked) (X:=fun w _=>laidMetH Tryz.prog zsS w) own started (by kernel_rfl) Tryz.func7
  (ChangeSpec.witness_shaped (enc:=enc) (C:=Tryz.checked) (os:=os) (X:=fun w _=>laidMetH Tryz.prog zsS w) false (World.laidAll Tryz.prog os zsS) #[.slice none 0 0,.slice none 0 0,.slice none 0 0,.slice none 0 0] 8 (World.laidAll_os _ _ _) (World.shaped_of_ZipB (by kernel_rfl) (by kernel_rfl)) (by kernel_rfl) (by kernel_rfl) (by kernel_rfl) (door_met os _)) ?_
 intro W base args ds gs before hsh hX hval0 hW hz
 have hval:∀ (j:Nat) t v,Tryz.f7.params[j]?=some t->args[j]?=some v->Value.okWide Tryz.prog W .any base t v:=hval0
 have hW':=hW
 obtain⟨p,q,hA0,hV,rfl,hfz,hnd⟩:=hW
 have hA:DataW.TrodAll enc Tryz.prog W 0 (fun _=>true) true Tryz.f7.params.toList args.toList ds p:=hA0
 rw[Tryz.params7]at hA hval hz
 obtain⟨v0,vs0,d0,ds0,p0,q0,hargs,rfl,rfl,h0,r0⟩:=trodAll_cons hA
 obtain⟨v1,vs1,d1,ds1,p1,q1,rfl,rfl,rfl,h1,r1⟩:=trodAll_cons r0
 obtain⟨v2,vs2,d2,ds2,p2,q2,rfl,rfl,rfl,h2,r2⟩:=trodAll_cons r1
 obtain⟨v3,vs3,d3,ds3,p3,q3,rfl,rfl,rfl,h3,r3⟩:=trodAll_cons r2
 obtain⟨rfl,rfl,rfl⟩:=trodAll_nil r3
 obtain rfl:args=#[v0,v1,v2,v3]:=by cases args;simp_all
 obtain⟨rfl,rfl⟩:=trodVars_none hV
 have hlt:=hW'.lt
 have h0k:=h0
 have h1k:=h1
 have h2k:=h2
 have h3k:=h3
 obtain⟨x0,k0,z0⟩:=zpk (a:=.pair (.int .i64) (.pair (.int .i64) (.pair (.str) (.pair (.int .i64) (.pair (.list (.str)) (.pair (.list (.pair (.int .i64) (.int .i64))) (.pair (.int .i64) (.int .i64)))))))) Tryz.underlying28 (by kernel_rfl) (.struct Tryz.underlying26 rfl (by kernel_rfl) (.cons rfl (by kernel_rfl) (.int (by kernel_rfl)) rfl (.cons rfl (by kernel_rfl) (.int (by kernel_rfl)) rfl (.cons rfl (by kernel_rfl) (.str (by kernel_rfl)) rfl (.cons rfl (by kernel_rfl) (.int (by kernel_rfl)) rfl (.cons rfl (by kernel_rfl) (.list Tryz.underlying23 (by kernel_rfl) (by decide) (.str (by kernel_rfl))) rfl (.cons rfl (by kernel_rfl) (.list Tryz.underlying24 (by kernel_rfl) (by decide) (.struct Tryz.underlying45 rfl (by kernel_rfl) (.cons rfl (by kernel_rfl) (.int (by kernel_rfl)) rfl (.last rfl (by kernel_rfl) (.int (by kernel_rfl)))))) rfl (.cons rfl (by kernel_rfl) (.int (by kernel_rfl)) rfl (.last rfl (by kernel_rfl) (.int (by kernel_rfl))))))))))) (hval 0 28 v0 rfl rfl) h0
 obtain⟨x1,k1,z1⟩:=zpk (a:=.pair (.int .i64) (.pair (.int .i64) (.pair (.str) (.pair (.str) (.pair (.list (.pair (.int .i64) (.int .i64))) (.list (.int .i64))))))) Tryz.underlying22 (by kernel_rfl) (.struct Tryz.underlying39 rfl (by kernel_rfl) (.cons rfl (by kernel_rfl) (.int (by kernel_rfl)) rfl (.cons rfl (by kernel_rfl) (.int (by kernel_rfl)) rfl (.cons rfl (by kernel_rfl) (.str (by kernel_rfl)) rfl (.cons rfl (by kernel_rfl) (.str (by kernel_rfl)) rfl (.cons rfl (by kernel_rfl) (.list Tryz.underlying36 (by kernel_rfl) (by decide) (.struct Tryz.underlying47 rfl (by kernel_rfl) (.cons rfl (by kernel_rfl) (.int (by kernel_rfl)) rfl (.last rfl (by kernel_rfl) (.int (by kernel_rfl)))))) rfl (.last rfl (by kernel_rfl) (.list Tryz.underlying37 (by kernel_rfl) (by decide) (.int (by kernel_rfl)))))))))) (hval 1 22 v1 rfl rfl) h1
 obtain⟨x2,k2,bb2,nn2⟩:=zsH (a:=.pair (.int .i64) (.pair (.str) (.bool))) Tryz.underlying49 (by kernel_rfl) (.struct Tryz.underlying55 rfl (by kernel_rfl) (.cons rfl (by kernel_rfl) (.int (by kernel_rfl)) rfl (.cons rfl (by kernel_rfl) (.str (by kernel_rfl)) rfl (.last rfl (by kernel_rfl) (.bool (by kernel_rfl)))))) (hval 2 49 v2 rfl rfl) h2
 obtain⟨x3,k3,bb3,nn3⟩:=zsH (a:=.int .i64) Tryz.underlying37 (by kernel_rfl) (.int (by kernel_rfl)) (hval 3 37 v3 rfl rfl) h3
 have b2:∀ x ∈ x2,∀ n ∈ zh2 (.pair (.int .i64) (.pair (.str) (.bool))) x,n<=reachBytes:=fun x hx n hn=>of_decide_eq_true (List.all_eq_true.1 hz n (zah (i:=2) rfl rfl (bb2 x hx n hn)))
 have n2:x2≠[]->∃ m,x2.length<=m/\m*Tryz.prog.bytesOf 55<=reachBytes:=fun h=>let ⟨m,h1,h2⟩:=nn2 h;⟨m,h1,of_decide_eq_true (List.all_eq_true.1 hz _ (zah (i:=2) rfl rfl h2))⟩
 have b3:∀ x ∈ x3,∀ n ∈ zh2 (.int .i64) x,n<=reachBytes:=fun x hx n hn=>of_decide_eq_true (List.all_eq_true.1 hz n (zah (i:=3) rfl rfl (bb3 x hx n hn)))
 have n3:x3≠[]->∃ m,x3.length<=m/\m*Tryz.prog.bytesOf 3<=reachBytes:=fun h=>let ⟨m,h1,h2⟩:=nn3 h;⟨m,h1,of_decide_eq_true (List.all_eq_true.1 hz _ (zah (i:=3) rfl rfl h2))⟩
 clear hA0 hval0
 refine(ztQ (f:=7) (args:=[.p (.list (wid (.pair (.int .i64) (.pair (.int .i64) (.pair (.str) (.pair (.int .i64) (.pair (.list (.str)) (.pair (.list (.pair (.int .i64) (.int .i64))) (.pair (.int .i64) (.int .i64))))))))) (.dat (.pair (.int .i64) (.pair (.int .i64) (.pair (.str) (.pair (.int .i64) (.pair (.list (.str)) (.pair (.list (.pair (.int .i64) (.int .i64))) (.pair (.int .i64) (.int .i64)))))))) x0)),.p (.list (wid (.pair (.int .i64) (.pair (.int .i64) (.pair (.str) (.pair (.str) (.pair (.list (.pair (.int .i64) (.int .i64))) (.list (.int .i64)))))))) (.dat (.pair (.int .i64) (.pair (.int .i64) (.pair (.str) (.pair (.str) (.pair (.list (.pair (.int .i64) (.int .i64))) (.list (.int .i64))))))) x1)),.p (.list (wid (.pair (.int .i64) (.pair (.str) (.bool)))) (.dat (.pair (.int .i64) (.pair (.str) (.bool))) x2)),.p (.list (wid (.int .i64)) (.dat (.int .i64) x3))]) (zxH x0 x1 x2 x3) W (fun g hg=>by obtain rfl:g=0:=List.mem_singleton.1 hg;exact Go.Proofs.cell_of_shapedOpen_int (zero:=#[.int .i64 0]) (t:=3) hsh (of_decide_eq_true (by kernel_rfl)) (by kernel_rfl) rfl (by kernel_rfl) (by kernel_rfl) Tryz.underlying3) (fun _ h=>absurd h List.not_mem_nil) (.cons k0 (.cons k1 (.cons k2 (.cons k3 .nil))))).mono fun e W' ⟨he,hg⟩=>?_
 subst he
 exact⟨_,rfl,zrz (pa:=(p0++(p1++(p2++(p3++[]))))) (pv:=[]) hW' (fun _ _ _=>(trodAll_cons_mk (shut_bool Tryz.underlying4 _) trodAll_mk0)) (fun sp hsp=>(trodAll_cons_mk (Go.WideElems.Trod_stays laidOut (by kernel_rfl) (of_decide_eq_true (by kernel_rfl)) h0k (fun x hx=>hg.same (hlt x (by simp[hx]))) (fun x hx=>hsp x (by simp[hx]))) (trodAll_cons_mk (Go.WideElems.Trod_stays laidOut (by kernel_rfl) (of_decide_eq_true (by kernel_rfl)) h1k (fun x hx=>hg.same (hlt x (by simp[hx]))) (fun x hx=>hsp x (by simp[hx]))) (trodAll_cons_mk (Go.WideElems.Trod_stays laidOut (by kernel_rfl) (of_decide_eq_true (by kernel_rfl)) h2k (fun x hx=>hg.same (hlt x (by simp[hx]))) (fun x hx=>hsp x (by simp[hx]))) (trodAll_cons_mk (Go.WideElems.Trod_stays laidOut (by kernel_rfl) (of_decide_eq_true (by kernel_rfl)) h3k (fun x hx=>hg.same (hlt x (by simp[hx]))) (fun x hx=>hsp x (by simp[hx]))) trodAll_mk0))))) (fun _ _=>rfl) rfl
  hg (RowKit.ok_one (by kernel_rfl) rfl (okWide_bool_mk Tryz.underlying4 _))⟩
theorem over:Rows.seekQueriesRow.holds Tryz.pinned (OpenSpec.ofChange Rows.seekQueriesSpec):=
 OpenClaim.holds_of_wide 7 Tryz.f7 rfl rfl rfl rfl rfl rfl rfl ⟨rfl,rfl,rfl,rfl,rfl⟩ rfl rfl rfl rfl rfl (by kernel_rfl) Tryz.func7 (by kernel_rfl)
  (of_decide_eq_true (by kernel_rfl)) (by unfold Func.isWrapper;first|(rw[if_pos (by decide+kernel)];kernel_rfl)|(rw[if_neg (by decide+kernel)];exact⟨rfl,rfl⟩))
  (fun os started H enc _=>lifted os started H enc)
theorem proved:Rows.SeekQueriesCardSaid:=
 Claim7.holds_tied_plain_at .later [] [.data,.pinned] true (true, "8e2a9972be6b11311d427d95e051dc8f61394c1ad94614f72db94521fbfbf98d") true
  over (fun _ h=>by cases h) (by kernel_rfl) (fun _ h=>by cases h) seekQueries_row_tie rfl ⟨rfl,rfl⟩ (by kernel_rfl) rfl
  (fun f fn hf hfn=>by
   obtain rfl:f=7:=Option.some.inj ((show Tryz.prog.funcNamed "pillarbox/pillarboxlaw19.SeekQueries"=some 7 by kernel_rfl).symm.trans hf) |>.symm
   obtain rfl:fn=Tryz.f7:=(Option.some.inj (Tryz.func7.symm.trans hfn)).symm
   exact⟨by kernel_rfl,fun j t ht=>by
    rw[Tryz.params7]at ht
    have hm:t ∈ [28,22,49,37]:=by simpa using Array.mem_of_getElem? ht
    have hall:([28,22,49,37].all fun u=>!Tryz.prog.wantsStandIn u)=true:=by kernel_rfl
    exact(show Tryz.prog.wantsStandIn t=false by simpa using List.all_eq_true.1 hall t hm)⟩)
  (by kernel_rfl)
end Go.Proofs.YtampckbjinodgaaGreatDoor.seekQueries
