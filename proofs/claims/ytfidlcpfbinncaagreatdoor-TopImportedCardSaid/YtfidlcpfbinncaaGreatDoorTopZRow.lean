/-
  Runs of this program on known data, checked by the kernel; no condition of its own.
-/
import Derived.Test.YtfidlcpfbinncaaGreatDoorRows
import Derived.Lay
import Derived.MakeChecks
import Derived.LaidHandle
import Derived.Stop.Joined
import Derived.WalkKit
import Derived.ProofKit
import Derived.OpenShut
import Derived.ShutString
import Derived.Test.YtfidlcpfbinncaaGreatDoorBmE
import Derived.Test.YtfidlcpfbinncaaGreatDoorTopYJ
import Derived.Test.YtfidlcpfbinncaaGreatDoorTopZM
set_option linter.unusedVariables false
noncomputable section
namespace Go.Proofs.YtfidlcpfbinncaaGreatDoor.topImported
open Go.ChangeMaps (open_string shut_string)
open Go.Bm Go.ChangeShapes Go.WideShapes Go.ChangeAt Go.RowKit
set_option maxRecDepth 100000
theorem own:ownKnob Tryz.prog.godebug=none:=by kernel_rfl
def zc7:List (String×DataW Unit):=[("unicode/utf8.first",Rows.laid_unicode_utf8_first),("unicode/utf8.acceptRanges",Rows.laid_unicode_utf8_acceptRanges),("internal/strconv.uint64pow10",Rows.laid_internal_strconv_uint64pow10),("math/bits.deBruijn32tab",Rows.laid_math_bits_deBruijn32tab),("math/bits.deBruijn64tab",Rows.laid_math_bits_deBruijn64tab),("unicode.CaseRanges",Rows.laid_unicode_CaseRanges)]
theorem hf(os:Os):(World.holding Tryz.prog os ⟨#[],#[],[]⟩).layFits Tryz.prog zc7 []=true:=by kernel_rfl
theorem hi(os:Os):(World.holding Tryz.prog os ⟨#[],#[],[]⟩).layIfaces Tryz.prog zc7 (World.laidAll Tryz.prog os zc7)=true:=by kernel_rfl
theorem plain(w:World):laidMetH Tryz.prog zc7 w=laidMet Tryz.prog zc7 w:=MakeChecks.laidMetH_plain _ _ _ (by kernel_rfl)
theorem door_met(os:Os)(args:Array Value):laidMetH Tryz.prog zc7 ((World.laidAll Tryz.prog os zc7).forCall (fun _ _=>0) ⟨#[],args,[]⟩).memory:=by
 rw[plain]
 exact laidMet_laidAll args (hf os) (hi os)
def pows:List Int:=[1,10,100,1000,10000,100000,1000000,10000000,100000000,1000000000,10000000000,100000000000,1000000000000,10000000000000,100000000000000,1000000000000000,10000000000000000,100000000000000000,1000000000000000000,10000000000000000000]
theorem zEa:("internal/strconv.uint64pow10",Lib.tabData .u64 pows) ∈ zc7:=show _ ∈ zc7 from(List.Mem.tail _ (List.Mem.tail _ (List.Mem.head _)))
theorem zBA{W W0:World}(hW:W0.heap=W.heap)(hX:laidMetH Tryz.prog zc7 W0):∀ g l,SS.gt g=some l->∃ e m,W.heap[g]?=some (.cells (l.map fun z=>Value.int .u64 (.ofNat z)).toArray e m):=by
 intro g l hg
 have hg:gtF g=some l:=hg
 unfold gtF at hg
 split at hg
 .cases hg
  rw[plain]at hX
  exact zpL (P:=Tryz.prog) (l:=zc7) (name:= "internal/strconv.uint64pow10") (zs:=pows) (g:=4) (t:=714) (n:=20) (e:=636) hW hX zEa (by kernel_rfl) (by kernel_rfl) (by kernel_rfl) (by kernel_rfl) (by kernel_rfl) (by kernel_rfl)
 .cases hg
def a0:Array Value:=#[.string ⟨#[]⟩,.bool false]
def w0(os:Os):World:=World.laidAll Tryz.prog os zc7
def w1(os:Os):World:=(w0 os).forCall (fun _ _=>0) ⟨#[],a0,[]⟩
theorem zBe(os:Os):(w1 os).variablesZipB Tryz.prog=true:=by kernel_rfl
theorem zBd(os:Os):((w1 os).heap.toList.drop Tryz.prog.globals.size).take ((begin Tryz.prog (fun _ _=>0) default).world.heap.size-Tryz.prog.globals.size)=(begin Tryz.prog (fun _ _=>0) default).world.heap.toList.drop Tryz.prog.globals.size:=by kernel_rfl
theorem zDY(os:Os):(w1 os).Shaped Tryz.prog:=World.shaped_of_ZipB (zBe os) (zBd os)
theorem wide(os:Os):Input.okWideB Tryz.prog (w1 os) 3 ⟨#[],a0,[]⟩=true:=by kernel_rfl
theorem preB(os:Os)(H:Type)(enc:TypeId×Value->H):Rows.topImportedSpec.preB enc Tryz.prog Tryz.f3 [] false (w1 os).memory a0 8=true:=by kernel_rfl
theorem sizedB(os:Os)(H:Type)(enc:TypeId×Value->H):Rows.topImportedSpec.sizedB enc Tryz.prog Tryz.f3 false (w1 os).memory a0 8=true:=by kernel_rfl
theorem noInit:Tryz.checked.prog.inits.idxOf? 3=none:=by kernel_rfl
theorem zz5:zR SS.P 3=true:=by kernel_rfl
def gam(s:Nat->Option (List UInt8)):Nat->Option G:=fun q=>match s q with|some t=>some ⟨0,0,0,none,t⟩|none=>none
theorem zy5{s:Nat->Option (List UInt8)}{q:Nat}{u:List UInt8}(h:s q=some u):gam s q=some ⟨0,0,0,none,u⟩:=by unfold gam;rw[h]
theorem zxR{γ:Nat->Option G}{g:G}(h:γ 1=some g):zf γ (.rp [.q 1]) (.string ⟨g.T.toArray⟩):=by
 refine .rp _ _ ?_
 have:=zG.q (γ:=γ) 1 g h .nil
 simpa using this
theorem walk(s:ByteArray)(hs:s.size<=maxLen)(b:Bool)(W:World)(hg:∀ g l,SS.gt g=some l->∃ e m,W.heap[g]?=some (.cells (l.map fun z=>Value.int .u64 (.ofNat z)).toArray e m)):
 Calls Tryz.prog 3 #[.string s,.bool b] W fun e W'=>e=.returned (.bool true)/\Below W.heap.size W W':=by
 obtain⟨t,rfl⟩:∃ t:List UInt8,s=⟨t.toArray⟩:=⟨s.data.toList,by simp⟩
 have hl:t.length<=maxLen:=by simpa[ByteArray.size]using hs
 rcases Nat.lt_or_ge 1000 t.length with hlt|hle
 .obtain ⟨h',hk⟩:=zBO t b
  refine zp1 (γ0:=gam (syG t)) hk (fun id hid=>?_) (fun q u hq=>⟨⟨0,0,0,none,u⟩,zy5 hq,rfl⟩) (fun q x y hq=>?_) (show zR SS.P 3=true from zz5) (vs:=[.string ⟨t.toArray⟩,.bool b]) (.cons (zxR (g:=⟨0,0,0,none,t⟩) rfl) (.cons (.b _) .nil)) W hg
  .unfold gam syG
   rw[show Nat.beq id 1=false from zdI (by omega)]
  .have hq:bdG q=some (x,y):=hq
   unfold bdG at hq
   split at hq
   .rename_i h1
    cases hq
    rw[Nat.eq_of_beq_eq_true h1]
    exact⟨t,rfl,hlt,hl⟩
   .cases hq
 .obtain ⟨h',hk⟩:=zxN hle b
  refine zp1 (γ0:=gam (syF t)) hk (fun id hid=>?_) (fun q u hq=>⟨⟨0,0,0,none,u⟩,zy5 hq,rfl⟩) (fun q x y hq=>zHE (Nat.zero_le _) hle hle q x y hq) (show zR SS.P 3=true from zz5) (vs:=[.string ⟨t.toArray⟩,.bool b]) (.cons (zxR (g:=⟨0,0,0,none,t⟩) rfl) (.cons (.b _) .nil)) W hg
  unfold gam
  cases hq:syF t id with
  | none=>rfl
  | some u=>exact absurd (zco (a:=0) (b:=1000) id (zdn id u hq)) (by omega)
theorem lifted(os:Os)(started:os.Started)(H:Type)(enc:TypeId×Value->H):
 ReturnsInHanded {} Tryz.checked os 3 .any (fun w args=>(Rows.topImportedSpec.pre enc Tryz.prog Tryz.f3 [] false w args/\laidMetH Tryz.prog zc7 w)/\sizedMet enc Tryz.prog Tryz.f3 (OpenSpec.ofChange Rows.topImportedSpec) false w args) (Rows.topImportedSpec.post enc Tryz.prog Tryz.f3 false true false false):=by
 refine zkR (C:=Tryz.checked) (X:=fun w _=>laidMetH Tryz.prog zc7 w) own started noInit Tryz.func3
  (ChangeSpec.witness_shaped (enc:=enc) (C:=Tryz.checked) (os:=os) (X:=fun w _=>laidMetH Tryz.prog zc7 w) false (w0 os) a0 8 (World.laidAll_os _ _ _) (zDY os) (wide os) (preB os H enc) (sizedB os H enc) (door_met os _)) ?_
 intro W base args ds gs before hsh hX hval0 hW hz
 have hval:∀ (j:Nat) t v,Tryz.f3.params[j]?=some t->args[j]?=some v->Value.okWide Tryz.prog W .any base t v:=hval0
 have hW':=hW
 obtain⟨p,q,hA0,hV,rfl,hfz,hnd⟩:=hW
 have hA:DataW.TrodAll enc Tryz.prog W 0 (fun _=>true) true Tryz.f3.params.toList args.toList ds p:=hA0
 rw[Tryz.params3]at hA hval hz
 obtain⟨v0,vs0,d0,ds0,p0,q0,hargs,rfl,rfl,h0,r0⟩:=trodAll_cons hA
 obtain⟨v1,vs1,d1,ds1,p1,q1,rfl,rfl,rfl,h1,r1⟩:=trodAll_cons r0
 obtain⟨rfl,rfl,rfl⟩:=trodAll_nil r1
 obtain rfl:args=#[v0,v1]:=by cases args;simp_all
 obtain⟨rfl,rfl⟩:=trodVars_none hV
 have hlt:=hW'.lt
 obtain⟨x0,rfl,rfl,rfl,wf0⟩:=open_string Tryz.underlying9 (hval 0 9 v0 rfl rfl) h0
 obtain⟨x1,rfl,rfl,rfl⟩:=open_bool Tryz.underlying4 (hval 1 4 v1 rfl rfl) h1
 clear hA0 hval0
 obtain⟨W0,hW0,hX0⟩:=hX
 refine(walk x0 wf0 x1 W (zBA hW0 hX0)).mono fun e W' ⟨he,hg⟩=>?_
 subst he
 exact⟨_,rfl,zml (pa:=([]++([]++[]))) (pv:=[]) hW' (fun _ _ _=>(trodAll_cons_mk (shut_bool Tryz.underlying4 _) trodAll_mk0)) (fun sp hsp=>(trodAll_cons_mk (shut_string Tryz.underlying9 wf0) (trodAll_cons_mk (shut_bool Tryz.underlying4 _) trodAll_mk0))) (fun _ _=>rfl) rfl
  hg (RowKit.ok_one (by kernel_rfl) rfl (okWide_bool_mk Tryz.underlying4 _))⟩
end Go.Proofs.YtfidlcpfbinncaaGreatDoor.topImported
