/-
  ROW: SeekTrees. The frame is the guide's shell's; the walk is the lifted contract.
-/
import Derived.Test.YtampckbjinodgaaGreatDoorRows
import Derived.Test.YtampckbjinodgaaGreatDoorC21
import Derived.Test.YtampckbjinodgaaGreatDoorAmC
import Derived.Test.YtampckbjinodgaaGreatDoorC22
import Derived.Test.YtampckbjinodgaaGreatDoorTie
import Derived.Test.YtampckbjinodgaaGreatDoorCards
import Derived.Lay
import Derived.MakeChecks
import Derived.LaidHandle
import Derived.Stop.Joined
import Derived.SevenTiedAt
import Derived.WalkKit
import Derived.ProofKit
import Derived.OpenShut
import Derived.ShutString
namespace Go.Proofs.YtampckbjinodgaaGreatDoor.seekTrees
open Go.Am Go.ChangeShapes Go.WideShapes Go.ChangeAt Go.RowKit
open Go.ChangeMaps (open_string shut_string)
set_option linter.unusedVariables false
theorem own:ownKnob Tryz.prog.godebug=none:=by kernel_rfl
theorem laidOut:laidOutB Tryz.prog=true:=by kernel_rfl
def laid2:List (String×DataW Unit):=[("unicode/utf8.acceptRanges",Rows.laid_unicode_utf8_acceptRanges),("unicode/utf8.first",Rows.laid_unicode_utf8_first)]
theorem door_met (os:Os) (args:Array Value):laidMetH Tryz.prog laid2 ((World.laidAll Tryz.prog os laid2).forCall (fun _ _=>0) ⟨#[],args,[]⟩).memory:=
 by rw [MakeChecks.laidMetH_plain _ _ _ (by kernel_rfl)]; exact laidMet_laidAll _ (by kernel_rfl) (by kernel_rfl)
theorem one_le {H:Type} (d:DataW H):1<=Rows.uptoBulk d:=by
 cases d with
 | lit l=>cases l <;> simp [Rows.uptoBulk]
 | _=>simp [Rows.uptoBulk]
theorem part_le {H:Type} {d:DataW H} {l:List (DataW H)} (h:d ∈ l):Rows.uptoBulk d<=Rows.uptoBulkAll l:=by
 induction l with
 | nil=>cases h
 | cons x r ih=>
  simp only [Rows.uptoBulkAll]
  rcases List.mem_cons.1 h with rfl | h
  .omega
  .have:=ih h; omega
theorem count_le {H:Type} (l:List (DataW H)):l.length<=Rows.uptoBulkAll l:=by
 induction l with
 | nil=>simp [Rows.uptoBulkAll]
 | cons x r ih=>have:=one_le x; simp only [Rows.uptoBulkAll,List.length_cons]; omega
theorem elems_le {H:Type} (es sp:List (DataW H)):es.length<=Rows.uptoBulk (.slice es sp):=by
 have:=count_le es
 simp only [Rows.uptoBulk]
 omega
theorem reads (os:Os) {H:Type} (enc:TypeId×Value->H):∃ places,DataW.whole enc Tryz.prog ((World.laidAll Tryz.prog os laid2).forCall (fun _ _=>0) ⟨#[],#[.slice none 0 0,.slice none 0 0,.agg #[.int .i64 0,.int .i64 0,.string ByteArray.empty,.int .i64 0,.slice none 0 0,.slice none 0 0,.int .i64 0,.int .i64 0]],[]⟩).memory Tryz.f3.params.toList Rows.seekTreesSpec.vars false #[.slice none 0 0,.slice none 0 0,.agg #[.int .i64 0,.int .i64 0,.string ByteArray.empty,.int .i64 0,.slice none 0 0,.slice none 0 0,.int .i64 0,.int .i64 0]].toList 8=some ([.nil,.nil,.agg [.lit (.int .i64 0),.lit (.int .i64 0),.lit (.string []),.lit (.int .i64 0),.nil,.nil,.lit (.int .i64 0),.lit (.int .i64 0)]],[],places):=
 ⟨[],by kernel_rfl⟩
set_option maxRecDepth 100000 in
theorem lifted (os:Os) (started:os.Started) (H:Type) (enc:TypeId×Value->H) (F:Stop.Interp):
 ReturnsInHanded {} Tryz.checked os 3 .any ((Rows.OpenSpec.upto Rows.seekTreesSpec).preRow enc Tryz.prog Tryz.f3 Rows.seekTreesUptoRow.domain false Rows.seekTreesUptoRow.laid) (((Rows.OpenSpec.upto Rows.seekTreesSpec).at F).post enc Tryz.prog Tryz.f3 false true false false):=by
 obtain ⟨places,hx⟩:=reads os enc
 refine returnsInHanded_of_row (C:=Tryz.checked) (s:=Rows.OpenSpec.upto Rows.seekTreesSpec) own started (by kernel_rfl) Tryz.func3
  (witness_row_at (enc:=enc) (C:=Tryz.checked) false (World.laidAll Tryz.prog os laid2) #[.slice none 0 0,.slice none 0 0,.agg #[.int .i64 0,.int .i64 0,.string ByteArray.empty,.int .i64 0,.slice none 0 0,.slice none 0 0,.int .i64 0,.int .i64 0]] (World.laidAll_os _ _ _) (by kernel_rfl) (by kernel_rfl) (by kernel_rfl)
   (OpenSpec.preRow_of_cond 8 hx (by kernel_rfl) (fun k hk=>by cases hk; kernel_rfl) (by kernel_rfl) (door_met os _))) ?_
 intro W base args ds gs before hval0 hW hcn hcond hz hL hsh hho
 have hval:∀ (j:Nat) t v,Tryz.f3.params[j]?=some t->args[j]?=some v->Value.okWide Tryz.prog W .any base t v:=hval0
 have hX:∃ W0:World,W0.heap=W.heap/\laidMetH Tryz.prog laid2 W0:=⟨W,rfl,hL⟩
 have hW':DataW.Whole enc Tryz.prog Tryz.f3.params.toList Rows.seekTreesSpec.vars false W args.toList ds gs before:=hW
 have hW2:=hW'
 obtain ⟨p,q,hA0,hV,rfl,hfz,hnd⟩:=hW2
 have hA:DataW.TrodAll enc Tryz.prog W 0 (fun _=>true) true Tryz.f3.params.toList args.toList ds p:=hA0
 have hbk:Rows.uptoBulkAll (ds++gs)<=1048576:=of_decide_eq_true (hcond _ rfl)
 rw [Tryz.params3] at hA hval
 obtain ⟨v0,vs0,d0,ds0,p0,q0,hargs,rfl,rfl,h0,r0⟩:=trodAll_cons hA
 obtain ⟨v1,vs1,d1,ds1,p1,q1,rfl,rfl,rfl,h1,r1⟩:=trodAll_cons r0
 obtain ⟨v2,vs2,d2,ds2,p2,q2,rfl,rfl,rfl,h2,r2⟩:=trodAll_cons r1
 obtain ⟨rfl,rfl,rfl⟩:=trodAll_nil r2
 obtain rfl:args=#[v0,v1,v2]:=by cases args; simp_all
 obtain ⟨rfl,rfl⟩:=trodVars_none hV
 have hlt:=hW'.lt
 have h0k:=h0
 have h1k:=h1
 have h2k:=h2
 rw [List.append_nil] at hbk
 obtain ⟨x0,k0,z0⟩:=open_listN (a:=.pair (.int .i64) (.pair (.int .i64) (.pair (.str) (.pair (.str) (.pair (.list (.pair (.int .i64) (.int .i64))) (.list (.int .i64))))))) Tryz.underlying22 (by kernel_rfl) (.struct Tryz.underlying39 rfl (by kernel_rfl) (.cons rfl (by kernel_rfl) (.int (by kernel_rfl)) rfl (.cons rfl (by kernel_rfl) (.int (by kernel_rfl)) rfl (.cons rfl (by kernel_rfl) (.str (by kernel_rfl)) rfl (.cons rfl (by kernel_rfl) (.str (by kernel_rfl)) rfl (.cons rfl (by kernel_rfl) (.list Tryz.underlying36 (by kernel_rfl) (by decide) (.struct Tryz.underlying47 rfl (by kernel_rfl) (.cons rfl (by kernel_rfl) (.int (by kernel_rfl)) rfl (.last rfl (by kernel_rfl) (.int (by kernel_rfl)))))) rfl (.last rfl (by kernel_rfl) (.list Tryz.underlying37 (by kernel_rfl) (by decide) (.int (by kernel_rfl)))))))))) (hval 0 22 v0 rfl rfl) h0
 obtain ⟨x1,k1,z1⟩:=open_listN (a:=.pair (.int .i64) (.pair (.int .i64) (.pair (.str) (.pair (.str) (.pair (.list (.pair (.int .i64) (.int .i64))) (.list (.int .i64))))))) Tryz.underlying22 (by kernel_rfl) (.struct Tryz.underlying39 rfl (by kernel_rfl) (.cons rfl (by kernel_rfl) (.int (by kernel_rfl)) rfl (.cons rfl (by kernel_rfl) (.int (by kernel_rfl)) rfl (.cons rfl (by kernel_rfl) (.str (by kernel_rfl)) rfl (.cons rfl (by kernel_rfl) (.str (by kernel_rfl)) rfl (.cons rfl (by kernel_rfl) (.list Tryz.underlying36 (by kernel_rfl) (by decide) (.struct Tryz.underlying47 rfl (by kernel_rfl) (.cons rfl (by kernel_rfl) (.int (by kernel_rfl)) rfl (.last rfl (by kernel_rfl) (.int (by kernel_rfl)))))) rfl (.last rfl (by kernel_rfl) (.list Tryz.underlying37 (by kernel_rfl) (by decide) (.int (by kernel_rfl)))))))))) (hval 1 22 v1 rfl rfl) h1
 obtain ⟨⟨y2_0,y2_1,y2_2,y2_3,y2_4,y2_5,y2_6,y2_7⟩,k2⟩:=open_agg (c:=.pair (.int .i64) (.pair (.int .i64) (.pair (.str) (.pair (.int .i64) (.pair (.list (.str)) (.pair (.list (.pair (.int .i64) (.int .i64))) (.pair (.int .i64) (.int .i64)))))))) Tryz.underlying26 (by kernel_rfl) (.struct Tryz.underlying26 rfl (by kernel_rfl) (.cons rfl (by kernel_rfl) (.int (by kernel_rfl)) rfl (.cons rfl (by kernel_rfl) (.int (by kernel_rfl)) rfl (.cons rfl (by kernel_rfl) (.str (by kernel_rfl)) rfl (.cons rfl (by kernel_rfl) (.int (by kernel_rfl)) rfl (.cons rfl (by kernel_rfl) (.list Tryz.underlying23 (by kernel_rfl) (by decide) (.str (by kernel_rfl))) rfl (.cons rfl (by kernel_rfl) (.list Tryz.underlying24 (by kernel_rfl) (by decide) (.struct Tryz.underlying45 rfl (by kernel_rfl) (.cons rfl (by kernel_rfl) (.int (by kernel_rfl)) rfl (.last rfl (by kernel_rfl) (.int (by kernel_rfl)))))) rfl (.cons rfl (by kernel_rfl) (.int (by kernel_rfl)) rfl (.last rfl (by kernel_rfl) (.int (by kernel_rfl))))))))))) (hval 2 26 v2 rfl rfl) h2
 have s0:x0.length<=1048576:=by
  rcases z0 with rfl | ⟨es,sp,he,hl⟩
  .simp
  .have h1:=part_le (d:=d0) (l:=[d0,d1,d2]) (by simp)
   have h2:=elems_le es sp
   rw [<-he] at h2
   omega
 have s1:x1.length<=1048576:=by
  rcases z1 with rfl | ⟨es,sp,he,hl⟩
  .simp
  .have h1:=part_le (d:=d1) (l:=[d0,d1,d2]) (by simp)
   have h2:=elems_le es sp
   rw [<-he] at h2
   omega
 clear hA0 hval0
 refine (walk_of_FnP2 (f:=3) (args:=[.p (.list (wid (.pair (.int .i64) (.pair (.int .i64) (.pair (.str) (.pair (.str) (.pair (.list (.pair (.int .i64) (.int .i64))) (.list (.int .i64)))))))) (.dat (.pair (.int .i64) (.pair (.int .i64) (.pair (.str) (.pair (.str) (.pair (.list (.pair (.int .i64) (.int .i64))) (.list (.int .i64))))))) x0)),.p (.list (wid (.pair (.int .i64) (.pair (.int .i64) (.pair (.str) (.pair (.str) (.pair (.list (.pair (.int .i64) (.int .i64))) (.list (.int .i64)))))))) (.dat (.pair (.int .i64) (.pair (.int .i64) (.pair (.str) (.pair (.str) (.pair (.list (.pair (.int .i64) (.int .i64))) (.list (.int .i64))))))) x1)),.agg [.p (.int .i64 y2_0),.p (.int .i64 y2_1),.p (.str y2_2),.p (.int .i64 y2_3),.p (.list (wid (.str)) (.dat (.str) y2_4)),.p (.list (wid (.pair (.int .i64) (.int .i64))) (.dat (.pair (.int .i64) (.int .i64)) y2_5)),.p (.int .i64 y2_6),.p (.int .i64 y2_7)]]) (fn_trees 0 x0 x1 y2_0 y2_1 y2_2 y2_3 y2_4 y2_5 y2_6 y2_7 _ fun _=>trees_eq x0 x1 y2_0 y2_1 y2_2 y2_3 y2_4 y2_5 y2_6 y2_7 (Nat.le_trans s0 (by decide)) (Nat.le_trans s1 (by decide))) W (fun g hg=>by obtain rfl:g=0:=List.mem_singleton.1 hg; exact Go.Proofs.cell_of_shapedOpen_int (zero:=#[.int .i64 0]) (t:=3) hsh (of_decide_eq_true (by kernel_rfl)) (by kernel_rfl) rfl (by kernel_rfl) (by kernel_rfl) Tryz.underlying3) (fun _ h=>absurd h List.not_mem_nil) (.cons k0 (.cons k1 (.cons k2 .nil)))).mono fun e W' ⟨he,hg⟩=>?_
 subst he
 have hpost:Rows.seekTreesSpec.post enc Tryz.prog Tryz.f3 false true false false W #[v0,v1,v2] (.bool true) W':=post_of_below (pa:=(p0++(p1++(p2++[])))) (pv:=[]) hW' (fun _ _ _=>(trodAll_cons_mk (shut_bool Tryz.underlying4 _) trodAll_mk0)) (fun sp hsp=>(trodAll_cons_mk (Go.WideElems.Trod_stays laidOut (by kernel_rfl) (of_decide_eq_true (by kernel_rfl)) h0k (fun x hx=>hg.same (hlt x (by simp [hx]))) (fun x hx=>hsp x (by simp [hx]))) (trodAll_cons_mk (Go.WideElems.Trod_stays laidOut (by kernel_rfl) (of_decide_eq_true (by kernel_rfl)) h1k (fun x hx=>hg.same (hlt x (by simp [hx]))) (fun x hx=>hsp x (by simp [hx]))) (trodAll_cons_mk (Go.WideElems.Trod_stays laidOut (by kernel_rfl) (of_decide_eq_true (by kernel_rfl)) h2k (fun x hx=>hg.same (hlt x (by simp [hx]))) (fun x hx=>hsp x (by simp [hx]))) trodAll_mk0)))) (fun _ _=>rfl) rfl
  hg (RowKit.ok_one (by kernel_rfl) rfl (okWide_bool_mk Tryz.underlying4 _))
 exact ⟨_,rfl,hpost⟩
theorem over:Rows.seekTreesUptoRow.holds Tryz.pinned (Rows.OpenSpec.upto Rows.seekTreesSpec):=
 OpenClaim.holds_of_cond 3 Tryz.f3 rfl rfl rfl rfl rfl rfl rfl ⟨rfl,rfl,rfl,rfl,rfl⟩ rfl rfl rfl rfl rfl (by kernel_rfl) Tryz.func3 (by kernel_rfl)
  (of_decide_eq_true (by kernel_rfl)) (by unfold Func.isWrapper; first | (rw [if_pos (by decide+kernel)]; kernel_rfl) | (rw [if_neg (by decide+kernel)]; exact ⟨rfl,rfl⟩))
  (fun os started H enc _ F=>by rw [OpenClaim.pre_eq_preRow]; exact lifted os started H enc F)
theorem proved:Rows.SeekTreesUptoCardSaid:=
 Claim7.holds_tied_plain_at .later [] [.data,.pinned] true (true, "8e2a9972be6b11311d427d95e051dc8f61394c1ad94614f72db94521fbfbf98d") true
  over (fun _ h=>by cases h) (by kernel_rfl) (fun _ h=>by cases h) seekTreesUpto_row_tie rfl ⟨rfl,rfl⟩ (by kernel_rfl) rfl
  (fun f fn hf hfn=>by
   obtain rfl:f=3:=Option.some.inj ((show Tryz.prog.funcNamed "pillarbox/pillarboxlaw19.SeekTrees"=some 3 by kernel_rfl).symm.trans hf) |>.symm
   obtain rfl:fn=Tryz.f3:=(Option.some.inj (Tryz.func3.symm.trans hfn)).symm
   exact ⟨by kernel_rfl,fun j t ht=>by
    rw [Tryz.params3] at ht
    have hm:t ∈ [22,22,26]:=by simpa using Array.mem_of_getElem? ht
    have hall:([22,22,26].all fun u=>!Tryz.prog.wantsStandIn u)=true:=by kernel_rfl
    exact (show Tryz.prog.wantsStandIn t=false by simpa using List.all_eq_true.1 hall t hm)⟩)
  (by kernel_rfl)
end Go.Proofs.YtampckbjinodgaaGreatDoor.seekTrees
