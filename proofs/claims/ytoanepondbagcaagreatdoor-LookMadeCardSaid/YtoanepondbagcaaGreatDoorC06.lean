/-
  Lifted functions, and facts about them.
-/
import Derived.Test.YtoanepondbagcaaGreatDoorRows
import Derived.Test.YtoanepondbagcaaGreatDoorAmC
import Derived.Test.YtoanepondbagcaaGreatDoorC05
import Derived.Test.YtoanepondbagcaaGreatDoorC01
import Derived.Shelf.Strings.SlTrimAscii
import Derived.ShutString
import Derived.Deep.RegionWith
import Derived.WalkMore
import Derived.Tactics
import Derived.Tactics2
import Derived.Defers
import Derived.Laws.Pointers
import Derived.Laws.LoneSync
import Derived.Laws.NewBlocks
import Derived.RegionTactic
import Derived.RegionCalls
import Derived.ChangeAlike
import Derived.OwnWalk
import Derived.Deep.LoopGhost
import Derived.Shelf.Small.Utf8
import Derived.Laws.OwnMore
import Derived.Deep.AppendSrc
import Derived.Deep.WholeRow
import Derived.Shelf.Strings.Count
import Derived.Laws.CopyOwn
import Derived.Deep.Cut
import Derived.Deep.CutRange
import Derived.Deep.DeepMust
namespace Go.Proofs.YtoanepondbagcaaGreatDoor
open Go Go.Am
set_option linter.unusedVariables false
def okAt (s:List UInt8) (i:Nat):Option (List UInt8×Nat):=if (oneS s (i:Int)).2.2=true then some ((oneS s (i:Int)).1,(oneS s (i:Int)).2.1.toNat) else none
def contN (s:List UInt8) (n:Nat):Nat:=if blN s n < s.length/\(okAt s (blN s n)).isSome=true then blN s n else n
def decF:Nat->List UInt8->Nat->List UInt8
 | 0,_,_=>[]
 | f + 1, s, i => if i < s.length then
     match okAt s i with
     | none=>s.getD i 0::decF f s (i+1)
     | some (t,n)=>t++decF f s (contN s n)
  else []
def dec (s:List UInt8) (i:Nat):List UInt8:=decF (s.length - i+1) s i
def wordS (s:List UInt8):List UInt8:=dec s 0
theorem bytesS_len:∀ u:List UInt8,(bytesS u).length<=4 * u.length
 | []=>by simp [bytesS]
 | c::r=>by
  have:=bytesS_len r
  have h:=putS_len (c.toNat:Int)
  unfold bytesS at *
  rw [List.flatMap_cons,List.length_append,List.length_cons]; omega
theorem bodyS_len {k:UInt8} {t u:List UInt8} (h:bodyS k t=some u):u.length<=3 * t.length+2:=by
 unfold bodyS at h
 split at h
 .cases h; exact looseG_len t 0 0
 .split at h
  .cases h
   have:=qdec_len _ (repS t 95 32) (Nat.le_refl _)
   rw [rep_len] at this; omega
  .cases h
theorem saysS_len (c u:List UInt8):(saysS c u).1.length<=4 * u.length:=by
 unfold saysS
 split
 .simp; omega
 .split
  .exact bytesS_len u
  .simp
theorem parse_some {s:List UInt8} {i a b:Nat} (h:parse s i=some (a,b)):i+3<=a/\a+3<=b/\b+2<=s.length/\s.getD i 0=61:=by
 unfold parse at h
 split at h
 .cases h
 .rename_i c1
  split at h
  .cases h
  .rename_i c2
   split at h
   .cases h
   .rename_i c3
    cases h
    have c1':hasP (s.drop i) sOpen=true:=by simpa using c1
    have c3':hasP (s.drop (runN s (runN s (i+2)+3))) sShut=true:=by simpa using c3
    have h1:=hasP2 c1'
    have h3:=hasP2 c3'
    simp only [List.length_drop,List.length_cons,List.length_nil] at h1 h3
    have r1:=runN_le (s:=s) (i:=i+2) (by omega)
    have n1:runN s (i+2)≠i+2:=fun e=>c2 (.inl e)
    have n2:¬ s.length < runN s (i+2)+3:=fun e=>c2 (.inr (.inl e))
    have r2:=runN_le (s:=s) (i:=runN s (i+2)+3) (by omega)
    refine ⟨by omega,by omega,by omega,?_⟩
    unfold hasP at c1'
    rw [beq_iff_eq] at c1'
    have:=take_cons (s:=s) (j:=i) (m:=1) (by omega)
    rw [show sOpen.length=1+1 from rfl,this] at c1'
    exact (List.cons.inj c1').1
theorem okAt_some {s:List UInt8} {i:Nat} {t:List UInt8} {n:Nat} (h:okAt s i=some (t,n)):oneS s (i:Int)=(t,(n:Int),true)/\i+8<=n/\n<=s.length/\s.getD i 0=61/\t.length+8 * i<=12 * n+8 * i/\t.length<=12 * (n - i):=by
 unfold okAt at h
 split at h
 .rename_i hok
  cases h
  unfold oneS at *
  rw [show ((i:Int)).toNat=i from rfl] at *
  cases hp:parse s i with
  | none=>rw [hp] at hok; cases hok
  | some p=>
   obtain ⟨a,b⟩:=p
   obtain ⟨h1,h2,h3,h4⟩:=parse_some hp
   rw [hp] at hok
   dsimp only at hok ⊢
   cases hb:bodyS (s.getD (a+1) 0) ((s.take b).drop (a+3)) with
   | none=>rw [hb] at hok; cases hok
   | some u=>
    rw [hb] at hok
    dsimp only at hok ⊢
    have l1:=bodyS_len hb
    have l2:=saysS_len ((s.take a).drop (i+2)) u
    have l3:((s.take b).drop (a+3)).length<=b - (a+3):=by simp; omega
    rw [hok]
    refine ⟨rfl,?_,?_,h4,?_,?_⟩ <;> rw [show (((b+2:Nat):Int)).toNat=b+2 from rfl] <;> omega
 .cases h
theorem okAt_none {s:List UInt8} {i:Nat} (h:okAt s i=none):(oneS s (i:Int)).2.2=false:=by
 unfold okAt at h
 split at h
 .cases h
 .rename_i hok; simpa using hok
theorem contN_le {s:List UInt8} {n:Nat} (h:n<=s.length):n<=contN s n/\contN s n<=s.length:=by
 have:=blN_le h
 unfold contN
 split <;> omega
theorem decF_eq (s:List UInt8):∀ (f g i:Nat),s.length - i < f->s.length - i < g->decF f s i=decF g s i:=by
 intro f
 induction f with
 | zero=>intro g i h; omega
 | succ f ih=>
  intro g i hf hg
  cases g with
  | zero=>omega
  | succ g=>
   rw [decF,decF]
   by_cases hi:i < s.length
   .rw [if_pos hi,if_pos hi]
    cases ho:okAt s i with
    | none=>dsimp only; rw [ih g (i+1) (by omega) (by omega)]
    | some p=>
     obtain ⟨t,n⟩:=p
     obtain ⟨_,h1,h2,_⟩:=okAt_some ho
     have:=contN_le h2
     dsimp only
     rw [ih g (contN s n) (by omega) (by omega)]
   .rw [if_neg hi,if_neg hi]
theorem dec_end {s:List UInt8} {i:Nat} (h:s.length<=i):dec s i=[]:=by rw [dec,decF,if_neg (by omega)]
theorem dec_none {s:List UInt8} {i:Nat} (h:i < s.length) (ho:okAt s i=none):dec s i=s.getD i 0::dec s (i+1):=by
 rw [dec,decF,if_pos h,ho]
 dsimp only
 rw [dec,decF_eq s (s.length - i) (s.length - (i+1)+1) (i+1) (by omega) (by omega)]
theorem dec_some {s:List UInt8} {i n:Nat} {t:List UInt8} (h:i < s.length) (ho:okAt s i=some (t,n)):dec s i=t++dec s (contN s n):=by
 obtain ⟨_,h1,h2,_⟩:=okAt_some ho
 have:=contN_le h2
 rw [dec,decF,if_pos h,ho]
 dsimp only
 rw [dec,decF_eq s (s.length - i) (s.length - (contN s n)+1) (contN s n) (by omega) (by omega)]
noncomputable def cwdec:Code:=bodyOf Tryz.f33
noncomputable def Gwdec:Cfg:=⟨Tryz.prog,mkEnv [(64,sp_one),(66,sp_wbl)],mkEnvR [(48,sp_wstr),(51,sp_bstr),(65,sp_wbyte)],51,[],[([0,0,1,1,1,0,1],⟨[0,3,4],[⟨.slot 3,3,.cells []⟩,⟨.cell 3 1,4001,(.barr 5 false [])⟩]⟩)],[([0,0,1,0,1,0,1,0,0,0,1,1,1,0,1],[3]),([0,1,1,0,1,0,0,0,1,1,1,0,1],[1]),([0,1,1,1,1,0,1],[0])]⟩
noncomputable def Bwdec_1 (F f1:Nat) (s:List UInt8) (vi1:Int) (vb2:List UInt8):Option Ans:=runR Gwdec cwdec (kP Tryz.prog Tryz.f33.results.toList) F [] [1,0,1,1,1,0,0] f1 [(0,.p (.str s)),(3,.ref 3 0),(4,.p (.int .i64 vi1))] [(3,.bldr 61 (.arr 4001)),(4001,.barr 5 false vb2)]
noncomputable def Fwdec (F:Nat) (s:List UInt8):Option Ans:=runF Gwdec Tryz.f33 F [.p (.str s)]
theorem Bwdec_1_eq (F f1:Nat) (s:List UInt8) (vi1:Int) (vb2:List UInt8):Bwdec_1 F (f1+1) s vi1 vb2=cond (decide (vi1 < (s.length:Int))) (need (wposok s vi1) (cond (!((oneS s vi1).2.2)) (need (0<=vi1/\vi1 < (s.length:Int)) (need (vb2.length+1<=140737488355328) (need (i64ok (vi1+(1:Int))) (Bwdec_1 F f1 s (vi1+(1:Int)) (vb2++[UInt8.ofNat (((s.getD (vi1).toNat 0).toNat:Int)).toNat]))))) (need (vb2.length+((oneS s vi1).1).length<=140737488355328) (need (wposok s ((oneS s vi1).2.1)) (cond (decide ((blankS s ((oneS s vi1).2.1)) < (s.length:Int))) (need (wposok s (blankS s ((oneS s vi1).2.1))) (cond ((oneS s (blankS s ((oneS s vi1).2.1))).2.2) (Bwdec_1 F f1 s (blankS s ((oneS s vi1).2.1)) (vb2++((oneS s vi1).1))) (Bwdec_1 F f1 s ((oneS s vi1).2.1) (vb2++((oneS s vi1).1))))) (Bwdec_1 F f1 s ((oneS s vi1).2.1) (vb2++((oneS s vi1).1)))))))) (some (.p (.str vb2),[])):=by kernel_rfl
theorem Fwdec_eq (F:Nat) (s:List UInt8):Fwdec F s=Bwdec_1 F F s (0:Int) []:=by kernel_rfl
theorem fn_wdec (F:Nat) (s:List UInt8) (r:AV) (h:(∃ M vs,ARels γ0 M [.p (.str s)] vs)->Fwdec F s=some (r,[])):FnP Tryz.prog 33 [.p (.str s)] r:=
 FnP_run Gwdec F rfl (EnvOk_mk (l:=[(64,sp_one),(66,sp_wbl)]) ⟨ok_one.any,ok_wbl.any,trivial⟩) (EnvROk_mk (l:=[(48,sp_wstr),(51,sp_bstr),(65,sp_wbyte)]) ⟨ok_wstr,ok_bstr,ok_wbyte,trivial⟩) (Checked.mixed Tryz.checked) (fn:=Tryz.f33) (by kernel_rfl) (by kernel_rfl) rfl h
theorem u8self (c:UInt8):UInt8.ofNat ((c.toNat:Int)).toNat=c:=by simp
theorem Bwdec_spec (F:Nat) (s:List UInt8) (hs:s.length<=100000):∀ (f i:Nat) (acc:List UInt8),s.length - i < f->i<=s.length->acc.length<=12 * i->
 Bwdec_1 F f s (i:Int) acc=some (.p (.str (acc++dec s i)),[]):=by
 intro f
 induction f with
 | zero=>intro i acc h; omega
 | succ f ih=>
  intro i acc hf hi ha
  rw [Bwdec_1_eq]
  by_cases h:i < s.length
  .refine cond_t (by simpa using h) (need_mk ⟨by omega,by omega,hs⟩ ?_)
   rw [show ((i:Int)).toNat=i from rfl,u8self]
   cases ho:okAt s i with
   | none=>
    rw [okAt_none ho]
    refine cond_t rfl ?_
    refine need_mk (by first | omega | (unfold i64ok; omega) | (simp only [List.length_cons,List.length_nil]; omega) | (simp; omega) | simp) ?_
    refine need_mk (by first | omega | (unfold i64ok; omega) | (simp only [List.length_cons,List.length_nil]; omega) | (simp; omega) | simp) ?_
    refine need_mk (by first | omega | (unfold i64ok; omega) | (simp only [List.length_cons,List.length_nil]; omega) | (simp; omega) | simp) ?_
    have e:(i:Int)+1=((i+1:Nat):Int):=by omega
    rw [e,ih (i+1) _ (by omega) (by omega) (by simp; omega),dec_none h ho]
    simp
   | some p=>
    obtain ⟨t,n⟩:=p
    obtain ⟨h1,h2,h3,_,_,h4⟩:=okAt_some ho
    rw [h1]
    refine cond_f rfl (need_mk (by dsimp only; omega) (need_mk ⟨by dsimp only; omega,by dsimp only; omega,hs⟩ ?_))
    dsimp only
    rw [show blankS s (n:Int)=(blN s n:Int) from rfl,dec_some h ho]
    have hb:=blN_le h3
    have fin:∀ m,m=contN s n->Bwdec_1 F f s (m:Int) (acc++t)=some (.p (.str (acc++(t++dec s (contN s n)))),[]):=fun m hm=>by
     have:=contN_le h3
     rw [hm,ih (contN s n) (acc++t) (by omega) (by omega) (by simp; omega),List.append_assoc]
    by_cases c1:blN s n < s.length
    .refine cond_t (by simpa using c1) (need_mk ⟨by omega,by omega,hs⟩ ?_)
     cases ho2:okAt s (blN s n) with
     | none=>
      rw [okAt_none ho2]
      exact cond_f rfl (fin n (by unfold contN; rw [if_neg (by rw [ho2]; simp)]))
     | some q=>
      obtain ⟨t2,n2⟩:=q
      rw [(okAt_some ho2).1]
      exact cond_t rfl (fin (blN s n) (by unfold contN; rw [if_pos ⟨c1,by rw [ho2]; rfl⟩]))
    .exact cond_f (by simpa using c1) (fin n (by unfold contN; rw [if_neg (fun h=>c1 h.1)]))
  .refine cond_f (by simpa using h) ?_
   rw [dec_end (by omega)]; simp
theorem wdec_eq (s:List UInt8) (hs:s.length<=100000):Fwdec (s.length+1) s=some (.p (.str (wordS s)),[]):=by
 rw [Fwdec_eq]
 exact Bwdec_spec _ s hs (s.length+1) 0 [] (by omega) (by omega) (by simp)
def sp_wdec:List AV->Option (AV×Option Prop)
 | [.p (.str s)]=>some (.p (.str (wordS s)),some (s.length<=100000))
 | _=>none
theorem ok_wdec:SpecOk Tryz.prog 33 sp_wdec:=by
 intro zs r ok he hok
 unfold sp_wdec at he
 split at he
 .cases he; exact ⟨by kernel_rfl,fn_wdec (_) _ _ fun hx=>wdec_eq _ hok⟩
 .cases he
end Go.Proofs.YtoanepondbagcaaGreatDoor
namespace Go.Proofs.YtoanepondbagcaaGreatDoor
open Go Go.Am
set_option linter.unusedVariables false
end Go.Proofs.YtoanepondbagcaaGreatDoor
namespace Go.Proofs.YtoanepondbagcaaGreatDoor
open Go Go.RowKit
theorem rp_disable (w:World):(callFunc 184 #[]).run Tryz.prog w=.ok (.value (.tuple #[])) w:=run_call_mark0 Tryz.func184 (by kernel_rfl) (by kernel_rfl) (by kernel_rfl) .disable (by kernel_rfl) w
theorem rp_enable (w:World):(callFunc 186 #[]).run Tryz.prog w=.ok (.value (.tuple #[])) w:=run_call_mark0 Tryz.func186 (by kernel_rfl) (by kernel_rfl) (by kernel_rfl) .enable (by kernel_rfl) w
theorem rp_acquire (a:Addr) (w:World):(callFunc 187 #[.pointer (some a)]).run Tryz.prog w=.ok (.value (.tuple #[])) w:=run_call_marked Tryz.func187 (by kernel_rfl) (by kernel_rfl) (by kernel_rfl) .acquire (by kernel_rfl) a w
theorem rp_releaseMerge (a:Addr) (w:World):(callFunc 189 #[.pointer (some a)]).run Tryz.prog w=.ok (.value (.tuple #[])) w:=run_call_marked Tryz.func189 (by kernel_rfl) (by kernel_rfl) (by kernel_rfl) .releaseMerge (by kernel_rfl) a w
set_option maxRecDepth 100000 in
set_option maxHeartbeats 1600000 in
theorem rp_store (a:Addr) (x:Value) (u:FrameMode) (w:World) (hc:w.cell? a=some x) (hz:w.frozen? a=false):
 CallsD Tryz.prog 160 #[.pointer (some a),.bool true] u w fun e u' w'=>u'=u/\(e=.returned (.tuple #[])/\w'=w.drew.setCell a (.int .u32 1)):=by
 have hc':w.drew.cell? a=some x:=by go_simp
 have hz':w.drew.frozen? a=false:=by go_simp
 have hst:=run_call_store (P:=Tryz.prog) Tryz.func174 (by kernel_rfl) (by kernel_rfl) (by kernel_rfl) (by kernel_rfl) (k:=.u32) (y:=1) hc' hz'
 go_enter_d Tryz.func160,Tryz.ntmps160
 go_wp2
 go_region_calls
 all_goals (go_end0; exact ⟨rfl,rfl⟩)
set_option maxRecDepth 100000 in
set_option maxHeartbeats 1600000 in
theorem rp_unlock (a:Addr) (u:FrameMode) (w:World) (hc:w.cell? a=some (.int .i32 1)) (hz:w.frozen? a=false):
 CallsD Tryz.prog 159 #[.pointer (some a)] u w fun e u' w'=>u'=u/\(e=.returned (.tuple #[])/\w'=w.setCell a (.int .i32 0)):=by
 have hd:=rp_disable
 have he:=rp_enable
 have hr:=rp_releaseMerge
 have hadd:=run_call_add (P:=Tryz.prog) Tryz.func190 (by kernel_rfl) (by kernel_rfl) (by kernel_rfl) .i32 (by kernel_rfl) (y:=-1) (s:=0) hc hz (by simp [go_sem]; rfl)
 have hcv:=run_convert_to_unsafe (P:=Tryz.prog) (src:=214) (dst:=128) Tryz.underlying214 Tryz.underlying128 (by kernel_rfl) hc
 go_enter_d Tryz.func159,Tryz.ntmps159
 go_wp2
 go_end0
 go_wp2
 go_end0
 exact ⟨rfl,rfl⟩
set_option maxRecDepth 100000 in
set_option maxHeartbeats 1600000 in
theorem rp_lock (a:Addr) (w:World) (hc:w.cell? a=some (.int .i32 0)) (hz:w.frozen? a=false):
 Calls Tryz.prog 158 #[.pointer (some a)] w fun e w'=>e=.returned (.tuple #[])/\w'=w.setCell a (.int .i32 1):=by
 have hd:=rp_disable
 have he:=rp_enable
 have ha:=rp_acquire
 have hcas:=run_call_cas_hit (P:=Tryz.prog) Tryz.func185 (by kernel_rfl) (by kernel_rfl) (by kernel_rfl) .i32 (by kernel_rfl) (y:=1) hc hz
 have hc':(w.setCell a (.int .i32 1)).cell? a=some (.int .i32 1):=World.cell?_setCell_same w a _ hc
 have hcv:=run_convert_to_unsafe (P:=Tryz.prog) (src:=214) (dst:=128) Tryz.underlying214 Tryz.underlying128 (by kernel_rfl) hc'
 go_enter Tryz.func158,Tryz.ntmps158
 go_wp2
 first | go_end0 | (simp only [Exit.inBlock,Exit.then]; refine bodyPost_ret (results_none rfl _ _ _) rfl ?_) | refine bodyPost_ret (results_none rfl _ _ _) rfl ?_
 go_wp2
 go_end0
 exact ⟨rfl,rfl⟩
end Go.Proofs.YtoanepondbagcaaGreatDoor
namespace Go.Proofs.YtoanepondbagcaaGreatDoor
open Go Go.Am
set_option linter.unusedVariables false
end Go.Proofs.YtoanepondbagcaaGreatDoor
namespace Go.Proofs.YtoanepondbagcaaGreatDoor
open Go Go.RowKit
noncomputable def rpA (v:Value):Array Value:=(Tryz.zeroCells181.toList.set 256 v).toArray
theorem rp_made (w:World):(storeCells ⟨w.heap.size+1,0,none⟩ (Tryz.zeroCells181.toList.set 256 (.slice (some ⟨w.heap.size,0,none⟩) 0 2))).run Tryz.prog ((w.alloc (.cells #[.string ⟨#[]⟩,.string ⟨#[]⟩] 9)).alloc (.cells Tryz.zeroCells181 181))=
 .ok () ((w.alloc (.cells #[.string ⟨#[]⟩,.string ⟨#[]⟩] 9)).alloc (.cells (rpA (.slice (some ⟨w.heap.size,0,none⟩) 0 2)) 181)):=by
 have h:=run_storeCells_new (P:=Tryz.prog) (w.alloc (.cells #[.string ⟨#[]⟩,.string ⟨#[]⟩] 9)) 181 Tryz.zeroCells181 (rpA (.slice (some ⟨w.heap.size,0,none⟩) 0 2)) (by kernel_rfl) (by kernel_rfl) (by kernel_rfl)
 rw [World.size_alloc] at h
 exact h
def RpSt (w wx:World) (n:Nat):Prop:=Below w.heap.size w wx/\w.heap.size+2<=wx.heap.size/\
 ∃ (arr:Array Value) (c0 c1:Value),wx.heap[w.heap.size+1]?=some (.cells arr 181 (0,0))/\arr.size=257/\wx.heap[w.heap.size]?=some (.cells #[c0,c1] 9 (0,0))/\
  arr[256]?=some (.slice (some ⟨w.heap.size,0,none⟩) n 2)/\(∀ j,j < 256->if (j=9/\1<=n)\/(j=32/\2<=n) then ∃ a c,arr[j]?=some (.slice (some a) 0 c) else arr[j]?=some (.slice none 0 0))/\
  ((1<=n->c0=.string ⟨#[9]⟩)/\(2<=n->c1=.string ⟨#[32]⟩))
theorem below_some {w w':World} (hB:Below w.heap.size w w') {a:Addr} {v:Value} (h:w.cell? a=some v):w'.cell? a=some v:=by
 rw [World.cell?_of_block (w:=w) (hB.block _ (World.block_lt_of_cell? w a h))]; exact h
theorem rp_st0 (w:World):RpSt w ((w.alloc (.cells #[.string ⟨#[]⟩,.string ⟨#[]⟩] 9)).alloc (.cells (rpA (.slice (some ⟨w.heap.size,0,none⟩) 0 2)) 181)) 0:=by
 refine ⟨((Below.refl _ _).alloc (Nat.le_refl _) _).alloc (by simp) _,by simp,rpA (.slice (some ⟨w.heap.size,0,none⟩) 0 2),.string ⟨#[]⟩,.string ⟨#[]⟩,?_,by kernel_rfl,?_,by kernel_rfl,fun j hj=>?_,fun h=>absurd h (by decide),fun h=>absurd h (by decide)⟩
 .have:=heap_alloc_new (w.alloc (.cells #[.string ⟨#[]⟩,.string ⟨#[]⟩] 9)) (.cells (rpA (.slice (some ⟨w.heap.size,0,none⟩) 0 2)) 181)
  rw [World.size_alloc] at this
  exact this
 .rw [Below.heap_alloc _ _ _ (by simp)]
  exact heap_alloc_new w _
 .rw [if_neg (by omega)]
  have h:∀ v:Value,(List.range 256).all (fun j=>match (rpA v)[j]? with | some (.slice none 0 0)=>true | _=>false)=true:=fun v=>by kernel_rfl
  have h2:=List.all_eq_true.1 (h (.slice (some ⟨w.heap.size,0,none⟩) 0 2)) j (List.mem_range.2 hj)
  split at h2
  .rename_i e; exact e
  .cases h2
theorem rp_bts (c:UInt8) (w:World):(convert 25 9 (.slice (some ⟨w.heap.size,0,none⟩) 1 1)).run Tryz.prog (w.alloc (.cells #[.int .u8 c.toNat] 5))=.ok (.string ⟨#[c]⟩) (w.alloc (.cells #[.int .u8 c.toNat] 5)):=by
 rw [Go.Am.run_convert_bytes (by kernel_rfl) _ ⟨_,_,_,rfl⟩]
 refine Go.Am.run_bytesToString w.heap.size 0 1 [c] fun i d hd=>?_
 cases i with
 | zero=>cases hd; exact (cell_of_row _ w.heap.size 0 #[.int .u8 c.toNat] _ (0,0) (heap_alloc_new w _)).trans rfl
 | succ i=>simp at hd
theorem rp_step {ops:Array Oper} {rest:List Oper} {o:Oper} {a:Act} {w w':World} {Q:Exit->Act->World->Prop} {v vs vx:Value} {s x:Operand} {t:TypeId} (hgd:o.guard=none)
 (ho:o.op=.call { callee:=.builtin .append,args:=#[s,x],argTypes:=#[t,t] }) (hs:a.eval s=vs) (hx:a.eval x=vx) (hr:(Builtin.append_ #[t,t] o.type #[vs,vx]).run Tryz.prog w=.ok v w')
 (h:wpList Tryz.prog ops Q rest (a.put o.dst v) w'):wpList Tryz.prog ops Q (o::rest) a w:=
 wpList_plain hgd fun K hK=>by
  unfold Oper.wp execOp
  simp only [ho,resolve,invoke,builtin,Sem.run_bind,Sem.run_pure,Result.andThen_ok,List.map_toArray,List.map_cons,List.map_nil,hs,hx,hr]
  exact hK _ _ h
theorem rp_row {w:World} {b:Nat} {cur:Array Value} {ty:TypeId} (h:w.heap[b]?=some (.cells cur ty (0,0))) (i:Nat):w.cell? ⟨b,i,none⟩=cur[i]?:=cell_of_row w b i cur ty (0,0) h
theorem rp_thaw {w:World} {b:Nat} {cur:Array Value} {ty:TypeId} (h:w.heap[b]?=some (.cells cur ty (0,0))) (i:Nat):w.frozen? ⟨b,i,none⟩=false:=by
 unfold World.frozen?
 rw [h]
 simp
theorem rp_A {w wr:World} {arr:Array Value} {c0 c1:Value} (n:Nat) (hn:n < 2) (o:UInt8) (hB:Below w.heap.size w wr) (hsz:w.heap.size+2<=wr.heap.size)
 (q1:wr.heap[w.heap.size+1]?=some (.cells arr 181 (0,0))) (q3:wr.heap[w.heap.size]?=some (.cells #[c0,c1] 9 (0,0))):
 ∃ (Wa:World) (d0 d1:Value),(Builtin.append_ #[30,30] 30 #[.slice (some ⟨w.heap.size,0,none⟩) n 2,.slice (some ⟨wr.heap.size+1,0,none⟩) 1 1]).run Tryz.prog
  ((wr.alloc (.cells #[.int .u8 o.toNat] 5)).alloc (.cells #[.string ⟨#[o]⟩] 9))=.ok (.slice (some ⟨w.heap.size,0,none⟩) (n+1) 2) Wa/\Below w.heap.size w Wa/\w.heap.size+2<=Wa.heap.size/\
  Wa.heap[w.heap.size+1]?=some (.cells arr 181 (0,0))/\Wa.heap[w.heap.size]?=some (.cells #[d0,d1] 9 (0,0))/\(n=0->d0=.string ⟨#[o]⟩)/\(n=1->d0=c0/\d1=.string ⟨#[o]⟩):=by
 obtain ⟨W1,hW⟩:∃ W1,W1=(wr.alloc (.cells #[.int .u8 o.toNat] 5)).alloc (.cells #[.string ⟨#[o]⟩] 9):=⟨_,rfl⟩
 rw [<-hW]
 have hz:W1.heap.size=wr.heap.size+2:=by rw [hW]; simp
 have k3:W1.heap[w.heap.size]?=some (.cells #[c0,c1] 9 (0,0)):=by
  rw [hW,Below.heap_alloc _ _ _ (by simp; omega),Below.heap_alloc _ _ _ (by omega)]; exact q3
 have k1:W1.heap[w.heap.size+1]?=some (.cells arr 181 (0,0)):=by
  rw [hW,Below.heap_alloc _ _ _ (by simp; omega),Below.heap_alloc _ _ _ (by omega)]; exact q1
 have kn:W1.heap[wr.heap.size+1]?=some (.cells #[.string ⟨#[o]⟩] 9 (0,0)):=by
  have:=heap_alloc_new (wr.alloc (.cells #[.int .u8 o.toNat] 5)) (.cells #[.string ⟨#[o]⟩] 9)
  rw [World.size_alloc] at this
  rw [hW]; exact this
 have hsrc:Src Tryz.prog 1 30 (.slice (some ⟨wr.heap.size+1,0,none⟩) 1 1) 1 [.string ⟨#[o]⟩] W1:=by
  refine Src.ofSlice W1 Tryz.underlying30 ⟨wr.heap.size+1,0,none⟩ 1 1 [.string ⟨#[o]⟩] rfl (fun j u hu=>?_) (fun u hu=>by rw [List.mem_singleton.1 hu]; rfl)
  cases j with
  | zero=>cases hu; exact (rp_row kn 0).trans rfl
  | succ j=>simp at hu
 have happ:=run_append_room_src (P:=Tryz.prog) W1 30 30 30 9 Tryz.t9 Tryz.underlying30 (by kernel_rfl) w.heap.size 0 n 2 _ 1 [.string ⟨#[o]⟩] hsrc (by omega)
  (fun j hj=>by
   obtain rfl:j=0:=by simpa using hj
   rw [rp_row k3]
   have:n=0\/n=1:=by omega
   rcases this with rfl | rfl <;> rfl) (fun j hj=>rp_thaw k3 _)
 have e:W1.setCells w.heap.size (0+n * 1) [.string ⟨#[o]⟩]=W1.setCell ⟨w.heap.size,n,none⟩ (.string ⟨#[o]⟩):=by
  rw [Nat.zero_add,Nat.mul_one]; rfl
 have hWB:Below w.heap.size w W1:=by rw [hW]; exact (hB.alloc (by omega) _).alloc (by simp; omega) _
 have er:=setCell_eq_setRow W1 w.heap.size n #[c0,c1] 9 (0,0) (.string ⟨#[o]⟩) k3
 refine ⟨W1.setCell ⟨w.heap.size,n,none⟩ (.string ⟨#[o]⟩),(#[c0,c1].setIfInBounds n (.string ⟨#[o]⟩)).getD 0 undef,(#[c0,c1].setIfInBounds n (.string ⟨#[o]⟩)).getD 1 undef,happ.trans (congrArg _ e),hWB.setCell (Nat.le_refl _) _,?_,?_,?_,?_,?_⟩
 .rw [er]; simp [World.setRow]; omega
 .rw [Below.heap_setCell _ _ _ _ (by simp)]; exact k1
 .rw [er,setRow_heap W1 _ _ _ _ _ k3]
  have:n=0\/n=1:=by omega
  rcases this with rfl | rfl <;> rfl
 .rintro rfl; rfl
 .rintro rfl; exact ⟨rfl,rfl⟩
theorem rp_B {w Wa:World} {arr:Array Value} {d0 d1:Value} (v:Value) (hB:Below w.heap.size w Wa) (hsz:w.heap.size+2<=Wa.heap.size) (_ha:arr.size=257)
 (q1:Wa.heap[w.heap.size+1]?=some (.cells arr 181 (0,0))) (q3:Wa.heap[w.heap.size]?=some (.cells #[d0,d1] 9 (0,0))):
 ∃ (Wb:World) (p:Addr) (c:Nat),(convert 9 25 (.string ⟨#[]⟩)).run Tryz.prog (Wa.setCell ⟨w.heap.size+1,256,none⟩ v)=.ok (.slice (some p) 0 c) Wb/\Below w.heap.size w Wb/\w.heap.size+2<=Wb.heap.size/\
  Wb.heap[w.heap.size+1]?=some (.cells (arr.setIfInBounds 256 v) 181 (0,0))/\Wb.heap[w.heap.size]?=some (.cells #[d0,d1] 9 (0,0)):=by
 have er:=setCell_eq_setRow Wa (w.heap.size+1) 256 arr 181 (0,0) v q1
 have hz:(Wa.setCell ⟨w.heap.size+1,256,none⟩ v).heap.size=Wa.heap.size:=by rw [er]; simp [World.setRow]
 have hb:=hB.setCell (p:=⟨w.heap.size+1,256,none⟩) (by simp) v
 refine ⟨_,_,_,run_bytes_of_string (P:=Tryz.prog) (Wa.setCell ⟨w.heap.size+1,256,none⟩ v) 9 25 5 ⟨#[]⟩ Tryz.underlying9 Tryz.underlying25 Tryz.underlying5,hb.drew.alloc (by show _<=(Wa.setCell _ v).heap.size; rw [hz]; omega) _,?_,?_,?_⟩
 .rw [World.size_alloc]; show _<=(Wa.setCell _ v).heap.size+1; rw [hz]; omega
 .rw [Below.heap_alloc _ _ _ (by show _ < (Wa.setCell _ v).heap.size; rw [hz]; omega)]
  show (Wa.setCell _ v).heap[w.heap.size+1]?=_
  rw [er,setRow_heap Wa _ _ _ _ _ q1]
 .rw [Below.heap_alloc _ _ _ (by show _ < (Wa.setCell _ v).heap.size; rw [hz]; omega)]
  show (Wa.setCell _ v).heap[w.heap.size]?=_
  rw [Below.heap_setCell _ _ _ _ (by simp)]; exact q3
theorem rp_C {w Wb:World} {arr:Array Value} {d0 d1:Value} (n o:Nat) (p:Addr) (c:Nat) (ho:(n=0/\o=9)\/(n=1/\o=32)) (hB:Below w.heap.size w Wb) (hsz:w.heap.size+2<=Wb.heap.size) (ha:arr.size=257)
 (q1:Wb.heap[w.heap.size+1]?=some (.cells (arr.setIfInBounds 256 (.slice (some ⟨w.heap.size,0,none⟩) (n+1) 2)) 181 (0,0))) (q3:Wb.heap[w.heap.size]?=some (.cells #[d0,d1] 9 (0,0)))
 (q5:∀ j,j < 256->if (j=9/\1<=n)\/(j=32/\2<=n) then ∃ a c,arr[j]?=some (.slice (some a) 0 c) else arr[j]?=some (.slice none 0 0)) (h0:d0=.string ⟨#[9]⟩) (h1:n=1->d1=.string ⟨#[32]⟩):
 RpSt w (Wb.setCell ⟨w.heap.size+1,o,none⟩ (.slice (some p) 0 c)) (n+1):=by
 have er:=setCell_eq_setRow Wb (w.heap.size+1) o _ 181 (0,0) (.slice (some p) 0 c) q1
 have ho2:o < 256:=by omega
 refine ⟨hB.setCell (by simp) _,?_,(arr.setIfInBounds 256 (.slice (some ⟨w.heap.size,0,none⟩) (n+1) 2)).setIfInBounds o (.slice (some p) 0 c),d0,d1,?_,by simp [ha],?_,?_,fun j hj=>?_,fun _=>h0,fun h=>h1 (by omega)⟩
 .rw [er]; simp [World.setRow]; omega
 .rw [er,setRow_heap Wb _ _ _ _ _ q1]
 .rw [Below.heap_setCell _ _ _ _ (by simp)]; exact q3
 .rw [Array.getElem?_setIfInBounds,if_neg (by omega),Array.getElem?_setIfInBounds,if_pos rfl,if_pos (by omega)]
 .have hq:=q5 j hj
  by_cases e:o=j
  .subst e
   have hc:(o=9/\1<=n+1)\/(o=32/\2<=n+1):=by omega
   rw [if_pos hc]
   exact ⟨p,c,by rw [Array.getElem?_setIfInBounds,if_pos rfl,if_pos (by simp [ha]; omega)]⟩
  .have ev:((arr.setIfInBounds 256 (.slice (some ⟨w.heap.size,0,none⟩) (n+1) 2)).setIfInBounds o (.slice (some p) 0 c))[j]?=arr[j]?:=by
    rw [Array.getElem?_setIfInBounds,if_neg e,Array.getElem?_setIfInBounds,if_neg (by omega)]
   by_cases h:(j=9/\1<=n)\/(j=32/\2<=n)
   .rw [if_pos h] at hq
    obtain ⟨a,c',h'⟩:=hq
    have hc:(j=9/\1<=n+1)\/(j=32/\2<=n+1):=by omega
    rw [if_pos hc]; exact ⟨a,c',ev.trans h'⟩
   .rw [if_neg h] at hq
    have hc:¬ ((j=9/\1<=n+1)\/(j=32/\2<=n+1)):=by omega
    rw [if_neg hc]; exact ev.trans hq
set_option maxRecDepth 100000 in
set_option maxHeartbeats 8000000 in
theorem rp_build (b R off cap:Nat) (w:World) (h4:w.cell? ⟨b,4,none⟩=some (.slice (some ⟨R,off,none⟩) 4 cap))
 (r0:w.cell? ⟨R,off,none⟩=some (.string ⟨#[32]⟩)) (r1:w.cell? ⟨R,off+1,none⟩=some (.string ⟨#[]⟩)) (r2:w.cell? ⟨R,off+2,none⟩=some (.string ⟨#[9]⟩)) (r3:w.cell? ⟨R,off+3,none⟩=some (.string ⟨#[]⟩)):
 Calls Tryz.prog 143 #[.pointer (some ⟨b,0,none⟩)] w fun e w'=>e=.returned (.iface 182 (.pointer (some ⟨w.heap.size+1,0,none⟩)))/\RpSt w w' 2:=by
 have hmk:∀ w:World,(Instr.makeSlice 30 (.int .i64 0) (.int .i64 2)).run Tryz.prog w=.ok (.slice (some ⟨w.heap.size,0,none⟩) 0 2) (w.alloc (.cells #[.string ⟨#[]⟩,.string ⟨#[]⟩] 9)):=fun w=>(run_make w 30 9 _ _ Tryz.underlying30 rfl rfl .i64 .i64 0 2 (by decide) (by decide) (by decide) (by decide)).trans (by kernel_rfl)
 have hst:=fun w:World=>rp_made w
 have e9:((⟨#[9]⟩:ByteArray)[0]'(by decide)).toNat=9:=rfl
 have e32:((⟨#[32]⟩:ByteArray)[0]'(by decide)).toNat=32:=rfl
 have hnil:∀ w:World,(binOp .eql 25 (.slice none 0 0) (.slice none 0 0)).run Tryz.prog w=.ok (.bool true) w:=fun w=>rfl
 go_enter Tryz.func143,Tryz.ntmps143
 go_wp2
 go_loopg [4,5] 2 (fun g s4 s5 wx=>w=wx/\((g=2/\s4=.bool true/\s5=.int .i64 0)\/(g=1/\s4=.bool false/\s5=.int .i64 2)\/(g=0/\s4=.bool false/\s5=.int .i64 4)))
 case atStart=>exact ⟨rfl,.inl ⟨rfl,rfl,rfl⟩⟩
 case round=>
  obtain ⟨rfl,hrel⟩:=hrel
  rcases hrel with ⟨rfl,rfl,rfl⟩ | ⟨rfl,rfl,rfl⟩ | ⟨rfl,rfl,rfl⟩
  .go_wp2
   go_roundg 1
   case measure=>omega
   case rel=>exact ⟨rfl,.inr (.inl ⟨rfl,rfl,rfl⟩)⟩
  .go_wp2
   go_roundg 0
   case measure=>omega
   case rel=>exact ⟨rfl,.inr (.inr ⟨rfl,rfl,rfl⟩)⟩
  .go_wp2
   go_loopg [12,13,14] 2 (fun g s12 s13 s14 wx=>∃ n,RpSt w wx n/\((g=2/\n=0/\s12=.int .i64 2)\/(g=1/\n=1/\s12=.int .i64 0)\/(g=0/\n=2/\s12=.int .i64 (-2))))
   case atStart=>
    refine ⟨0,?_,.inl ⟨rfl,rfl,rfl⟩⟩
    exact rp_st0 w
   case round=>
    obtain ⟨n,hst,hrel⟩:=hrel
    rcases hrel with ⟨rfl,rfl,rfl⟩ | ⟨rfl,rfl,rfl⟩ | ⟨rfl,rfl,rfl⟩
    .obtain ⟨hB,hsz,arr,c0,c1,q1,q2,q3,q4,q5,q6,q7⟩:=hst
     have g0:=below_some hB r0
     have g1:=below_some hB r1
     have g2:=below_some hB r2
     have g3:=below_some hB r3
     have zo:wr.cell? ⟨w.heap.size+1,9,none⟩=some (.slice none 0 0):=by
      have h:=q5 9 (by decide)
      rw [if_neg (by decide)] at h
      rw [rp_row q1]; exact h
     have z256:wr.cell? ⟨w.heap.size+1,256,none⟩=some (.slice (some ⟨w.heap.size,0,none⟩) 0 2):=by rw [rp_row q1]; exact q4
     have hbts:(convert 25 9 (.slice (some ⟨wr.heap.size,0,none⟩) 1 1)).run Tryz.prog (wr.alloc (.cells #[.int .u8 9] 5))=.ok (.string ⟨#[9]⟩) (wr.alloc (.cells #[.int .u8 9] 5)):=rp_bts 9 wr
     obtain ⟨Wa,d0,d1,happ0,hB1,hsz1,k1,k3,k4,k5⟩:=rp_A 0 (by decide) 9 hB hsz q1 q3
     have happ:(Builtin.append_ #[30,30] 30 #[.slice (some ⟨w.heap.size,0,none⟩) 0 2,.slice (some ⟨wr.heap.size+1,0,none⟩) 1 1]).run Tryz.prog
      ((wr.alloc (.cells #[.int .u8 9] 5)).alloc (.cells #[.string ⟨#[9]⟩] 9))=.ok (.slice (some ⟨w.heap.size,0,none⟩) 1 2) Wa:=happ0
     have za:Wa.cell? ⟨w.heap.size+1,256,none⟩=some (.slice (some ⟨w.heap.size,0,none⟩) 0 2):=by rw [rp_row k1]; exact q4
     have ya:=rp_thaw k1 256
     obtain ⟨Wb,p,c,hcv,hB2,hsz2,m1,m3⟩:=rp_B (.slice (some ⟨w.heap.size,0,none⟩) 1 2) hB1 hsz1 q2 k1 k3
     have zb:Wb.cell? ⟨w.heap.size+1,9,none⟩=some (.slice none 0 0):=by
      have h:=q5 9 (by decide)
      rw [if_neg (by decide)] at h
      rw [rp_row m1,Array.getElem?_setIfInBounds,if_neg (by decide)]; exact h
     have yb:=rp_thaw m1 9
     go_wp2_with (at_builtin; refine rp_step rfl rfl rfl rfl happ ?_)
     go_roundg 1
     case measure=>omega
     case rel=>exact ⟨1,rp_C 0 9 p c (by decide) hB2 hsz2 q2 m1 m3 q5 (k4 (by trivial)) (fun h=>absurd h (by decide)),.inr (.inl ⟨rfl,rfl,rfl⟩)⟩
    .obtain ⟨hB,hsz,arr,c0,c1,q1,q2,q3,q4,q5,q6,q7⟩:=hst
     have g0:=below_some hB r0
     have g1:=below_some hB r1
     have g2:=below_some hB r2
     have g3:=below_some hB r3
     have zo:wr.cell? ⟨w.heap.size+1,32,none⟩=some (.slice none 0 0):=by
      have h:=q5 32 (by decide)
      rw [if_neg (by decide)] at h
      rw [rp_row q1]; exact h
     have z256:wr.cell? ⟨w.heap.size+1,256,none⟩=some (.slice (some ⟨w.heap.size,0,none⟩) 1 2):=by rw [rp_row q1]; exact q4
     have hbts:(convert 25 9 (.slice (some ⟨wr.heap.size,0,none⟩) 1 1)).run Tryz.prog (wr.alloc (.cells #[.int .u8 32] 5))=.ok (.string ⟨#[32]⟩) (wr.alloc (.cells #[.int .u8 32] 5)):=rp_bts 32 wr
     obtain ⟨Wa,d0,d1,happ0,hB1,hsz1,k1,k3,k4,k5⟩:=rp_A 1 (by decide) 32 hB hsz q1 q3
     have happ:(Builtin.append_ #[30,30] 30 #[.slice (some ⟨w.heap.size,0,none⟩) 1 2,.slice (some ⟨wr.heap.size+1,0,none⟩) 1 1]).run Tryz.prog
      ((wr.alloc (.cells #[.int .u8 32] 5)).alloc (.cells #[.string ⟨#[32]⟩] 9))=.ok (.slice (some ⟨w.heap.size,0,none⟩) 2 2) Wa:=happ0
     have za:Wa.cell? ⟨w.heap.size+1,256,none⟩=some (.slice (some ⟨w.heap.size,0,none⟩) 1 2):=by rw [rp_row k1]; exact q4
     have ya:=rp_thaw k1 256
     obtain ⟨Wb,p,c,hcv,hB2,hsz2,m1,m3⟩:=rp_B (.slice (some ⟨w.heap.size,0,none⟩) 2 2) hB1 hsz1 q2 k1 k3
     have zb:Wb.cell? ⟨w.heap.size+1,32,none⟩=some (.slice none 0 0):=by
      have h:=q5 32 (by decide)
      rw [if_neg (by decide)] at h
      rw [rp_row m1,Array.getElem?_setIfInBounds,if_neg (by decide)]; exact h
     have yb:=rp_thaw m1 32
     go_wp2_with (at_builtin; refine rp_step rfl rfl rfl rfl happ ?_)
     go_roundg 0
     case measure=>omega
     case rel=>exact ⟨2,rp_C 1 32 p c (by decide) hB2 hsz2 q2 m1 m3 q5 ((k5 (by trivial)).1.trans (q6 (by decide))) (fun _=>(k5 (by trivial)).2),.inr (.inr ⟨rfl,rfl,rfl⟩)⟩
    .go_wp2
     go_ret
     exact ⟨rfl,hst⟩
end Go.Proofs.YtoanepondbagcaaGreatDoor
namespace Go.Proofs.YtoanepondbagcaaGreatDoor
open Go Go.Am
set_option linter.unusedVariables false
end Go.Proofs.YtoanepondbagcaaGreatDoor
namespace Go.Proofs.YtoanepondbagcaaGreatDoor
open Go Go.RowKit
abbrev rpI (w:World):Value:=.iface 182 (.pointer (some ⟨w.heap.size+1,0,none⟩))
theorem below_frozen {w w':World} (hB:Below w.heap.size w w') {a:Addr} {v:Value} (h:w.cell? a=some v) (hz:w.frozen? a=false):w'.frozen? a=false:=by
 rw [World.frozen?_of_block (w:=w) (hB.block _ (World.block_lt_of_cell? w a h))]; exact hz
set_option maxRecDepth 100000 in
set_option maxHeartbeats 4000000 in
theorem rp_once (b R off cap:Nat) (x3:Value) (w:World) (h3:w.cell? ⟨b,3,none⟩=some x3) (h4:w.cell? ⟨b,4,none⟩=some (.slice (some ⟨R,off,none⟩) 4 cap)) (f3:w.frozen? ⟨b,3,none⟩=false) (f4:w.frozen? ⟨b,4,none⟩=false)
 (r0:w.cell? ⟨R,off,none⟩=some (.string ⟨#[32]⟩)) (r1:w.cell? ⟨R,off+1,none⟩=some (.string ⟨#[]⟩)) (r2:w.cell? ⟨R,off+2,none⟩=some (.string ⟨#[9]⟩)) (r3:w.cell? ⟨R,off+3,none⟩=some (.string ⟨#[]⟩)):
 Calls Tryz.prog 122 #[.pointer (some ⟨b,0,none⟩)] w fun e w'=>e=.returned (.tuple #[])/\∃ W2,RpSt w W2 2/\w'=(W2.setCell ⟨b,3,none⟩ (rpI w)).setCell ⟨b,4,none⟩ (.slice none 0 0):=by
 go_enter Tryz.func122,Tryz.ntmps122
 go_wp2_with (go_at_call 143; refine (rp_build b R off cap w h4 r0 r1 r2 r3).mono ?_; rintro e W2 ⟨rfl,hst⟩; have c3:=below_some hst.1 h3; have z3:=below_frozen hst.1 h3 f3; have c4:=below_some hst.1 h4; have z4:=below_frozen hst.1 h4 f4)
 go_end0
 exact ⟨rfl,W2,hst,rfl⟩
set_option maxRecDepth 100000 in
set_option maxHeartbeats 4000000 in
theorem rp_slow (b R off cap:Nat) (hRb:R≠b) (x3:Value) (w:World) (h0:w.cell? ⟨b,0,none⟩=some (.int .u32 0)) (h1:w.cell? ⟨b,1,none⟩=some (.int .i32 0)) (h3:w.cell? ⟨b,3,none⟩=some x3)
 (h4:w.cell? ⟨b,4,none⟩=some (.slice (some ⟨R,off,none⟩) 4 cap)) (f0:w.frozen? ⟨b,0,none⟩=false) (f1:w.frozen? ⟨b,1,none⟩=false) (f3:w.frozen? ⟨b,3,none⟩=false) (f4:w.frozen? ⟨b,4,none⟩=false)
 (r0:w.cell? ⟨R,off,none⟩=some (.string ⟨#[32]⟩)) (r1:w.cell? ⟨R,off+1,none⟩=some (.string ⟨#[]⟩)) (r2:w.cell? ⟨R,off+2,none⟩=some (.string ⟨#[9]⟩)) (r3:w.cell? ⟨R,off+3,none⟩=some (.string ⟨#[]⟩)):
 Calls Tryz.prog 142 #[.pointer (some ⟨b,0,none⟩),.func (.func 122) #[.pointer (some ⟨b,0,none⟩)] #[]] w fun e w'=>e=.returned (.tuple #[])/\
  ∃ W2,RpSt (w.setCell ⟨b,1,none⟩ (.int .i32 1)) W2 2/\w'=(((W2.setCell ⟨b,3,none⟩ (rpI (w.setCell ⟨b,1,none⟩ (.int .i32 1)))).setCell ⟨b,4,none⟩ (.slice none 0 0)).drew.setCell ⟨b,0,none⟩ (.int .u32 1)).setCell ⟨b,1,none⟩ (.int .i32 0):=by
 have hl:=run_call_load (P:=Tryz.prog) Tryz.func157 (by kernel_rfl) (by kernel_rfl) (by kernel_rfl) .u32 (by kernel_rfl) (w:=w.setCell ⟨b,1,none⟩ (.int .i32 1)) (a:=⟨b,0,none⟩) (x:=0) ((World.cell?_setCell_other _ ⟨b,1,none⟩ ⟨b,0,none⟩ _ (by simp)).trans h0)
 have other:∀ (a:Addr) (v:Value),a≠⟨b,1,none⟩->w.cell? a=some v->(w.setCell ⟨b,1,none⟩ (.int .i32 1)).cell? a=some v:=fun a v hne h=>(World.cell?_setCell_other _ ⟨b,1,none⟩ a _ (by first | exact hne | exact fun e=>hne e.symm)).trans h
 have hne:∀ q:Nat,(⟨R,q,none⟩:Addr)≠⟨b,1,none⟩:=fun q e=>hRb (congrArg Addr.block e)
 have hnot:∀ (x:Bool) (w:World),(Op.unary .not (.bool x)).run Tryz.prog w=.ok (.bool (!x)) w:=fun _ _=>rfl
 go_enter_defers Tryz.func142,Tryz.ntmps142
 go_wp2_with (first
  | (go_at_call 158; refine (rp_lock ⟨b,1,none⟩ _ (by go_simp) (by go_simp)).mono ?_; rintro e w' ⟨rfl,rfl⟩)
  | (go_at_call 141; go_in))
 obtain ⟨w1,hw1⟩:∃ w1,w1=w.setCell ⟨b,1,none⟩ (.int .i32 1):=⟨_,rfl⟩
 have g0:=other ⟨b,0,none⟩ _ (by simp) h0
 have g1:w1.cell? ⟨b,1,none⟩=some (.int .i32 1):=by rw [hw1]; exact World.cell?_setCell_same w _ _ h1
 have g3:=other ⟨b,3,none⟩ _ (by simp) h3
 have g4:=other ⟨b,4,none⟩ _ (by simp) h4
 have s0:=other _ _ (hne _) r0
 have s1:=other _ _ (hne _) r1
 have s2:=other _ _ (hne _) r2
 have s3:=other _ _ (hne _) r3
 have z0:w1.frozen? ⟨b,0,none⟩=false:=by rw [hw1]; simpa using f0
 have z1:w1.frozen? ⟨b,1,none⟩=false:=by rw [hw1]; simpa using f1
 have z3:w1.frozen? ⟨b,3,none⟩=false:=by rw [hw1]; simpa using f3
 have z4:w1.frozen? ⟨b,4,none⟩=false:=by rw [hw1]; simpa using f4
 rw [<-hw1] at g0 g3 g4 s0 s1 s2 s3 ⊢
 refine (rp_once b R off cap x3 w1 g3 g4 z3 z4 s0 s1 s2 s3).mono ?_
 rintro e w' ⟨rfl,W2,hst,rfl⟩
 have c0:=below_some hst.1 g0
 have c1:=below_some hst.1 g1
 have y0:=below_frozen hst.1 g0 z0
 have y1:=below_frozen hst.1 g1 z1
 go_wp2
 refine leaves_cons (f:=160) (args:=#[.pointer (some ⟨b,0,none⟩),.bool true]) (by simp) (by simp [go_sem]) ?_
 refine (rp_store ⟨b,0,none⟩ (.int .u32 0) .returning _ ?_ (by simp [y0])).mono ?_
 .exact (World.cell?_setCell_other _ ⟨b,4,none⟩ ⟨b,0,none⟩ _ (by simp)).trans ((World.cell?_setCell_other _ ⟨b,3,none⟩ ⟨b,0,none⟩ _ (by simp)).trans c0)
 rintro e u' w'' ⟨rfl,rfl,rfl⟩
 refine leaves_cons (f:=159) (args:=#[.pointer (some ⟨b,1,none⟩)]) (by simp [settle]) (by simp [go_sem]) ?_
 refine (rp_unlock ⟨b,1,none⟩ _ _ ?_ (by simp [y1])).mono ?_
 .refine (World.cell?_setCell_other _ ⟨b,0,none⟩ ⟨b,1,none⟩ _ (by simp)).trans ?_
  rw [World.cell?_drew]
  exact (World.cell?_setCell_other _ ⟨b,4,none⟩ ⟨b,1,none⟩ _ (by simp)).trans ((World.cell?_setCell_other _ ⟨b,3,none⟩ ⟨b,1,none⟩ _ (by simp)).trans c1)
 rintro e u' w'' ⟨rfl,rfl,rfl⟩
 simp [Leaves,settle,results,Tryz.results142]
 subst hw1
 exact ⟨W2,hst,rfl⟩
set_option maxRecDepth 100000 in
set_option maxHeartbeats 4000000 in
theorem rp_do (b R off cap:Nat) (hRb:R≠b) (x3:Value) (w:World) (h0:w.cell? ⟨b,0,none⟩=some (.int .u32 0)) (h1:w.cell? ⟨b,1,none⟩=some (.int .i32 0)) (h3:w.cell? ⟨b,3,none⟩=some x3)
 (h4:w.cell? ⟨b,4,none⟩=some (.slice (some ⟨R,off,none⟩) 4 cap)) (f0:w.frozen? ⟨b,0,none⟩=false) (f1:w.frozen? ⟨b,1,none⟩=false) (f3:w.frozen? ⟨b,3,none⟩=false) (f4:w.frozen? ⟨b,4,none⟩=false)
 (r0:w.cell? ⟨R,off,none⟩=some (.string ⟨#[32]⟩)) (r1:w.cell? ⟨R,off+1,none⟩=some (.string ⟨#[]⟩)) (r2:w.cell? ⟨R,off+2,none⟩=some (.string ⟨#[9]⟩)) (r3:w.cell? ⟨R,off+3,none⟩=some (.string ⟨#[]⟩)):
 Calls Tryz.prog 121 #[.pointer (some ⟨b,0,none⟩),.func (.func 122) #[.pointer (some ⟨b,0,none⟩)] #[]] w fun e w'=>e=.returned (.tuple #[])/\
  ∃ W2,RpSt (w.setCell ⟨b,1,none⟩ (.int .i32 1)) W2 2/\w'=(((W2.setCell ⟨b,3,none⟩ (rpI (w.setCell ⟨b,1,none⟩ (.int .i32 1)))).setCell ⟨b,4,none⟩ (.slice none 0 0)).drew.setCell ⟨b,0,none⟩ (.int .u32 1)).setCell ⟨b,1,none⟩ (.int .i32 0):=by
 have hl:=run_call_load (P:=Tryz.prog) Tryz.func157 (by kernel_rfl) (by kernel_rfl) (by kernel_rfl) .u32 (by kernel_rfl) h0
 have hnot:∀ (x:Bool) (w:World),(Op.unary .not (.bool x)).run Tryz.prog w=.ok (.bool (!x)) w:=fun _ _=>rfl
 go_enter Tryz.func121,Tryz.ntmps121
 go_wp2_with (first
  | (go_at_call 142; refine (rp_slow b R off cap hRb x3 w h0 h1 h3 h4 f0 f1 f3 f4 r0 r1 r2 r3).mono ?_; rintro e w' ⟨rfl,W2,hst,rfl⟩)
  | (go_at_call 141; go_in))
 go_end0
 exact ⟨rfl,W2,hst,rfl⟩
end Go.Proofs.YtoanepondbagcaaGreatDoor
namespace Go.Proofs.YtoanepondbagcaaGreatDoor
open Go Go.Am
set_option linter.unusedVariables false
end Go.Proofs.YtoanepondbagcaaGreatDoor
namespace Go.Proofs.YtoanepondbagcaaGreatDoor
open Go.Shelf
def lays138_ren : Go.Shelf.Ren:=⟨fun |138=>55|195=>92|218=>93|143=>94|219=>126|217=>124|225=>146|224=>147|267=>148|266=>145|314=>164|n=>n, fun |9=>9|3=>3|4=>4|5=>5|0=>0|46=>103|146=>183|51=>133|n=>n, fun |1=>0|n=>n⟩
theorem lays138 : Go.Proofs.Lays.n138 Tryz.prog lays138_ren:={
 mixed:=by kernel_rfl
 f138:=Tryz.func55.trans (congrArg some (by kernel_rfl))
 f143:=Tryz.func94.trans (congrArg some (by kernel_rfl))
 f195:=Tryz.func92.trans (congrArg some (by kernel_rfl))
 f217:=Tryz.func124.trans (congrArg some (by kernel_rfl))
 f218:=Tryz.func93.trans (congrArg some (by kernel_rfl))
 f219:=Tryz.func126.trans (congrArg some (by kernel_rfl))
 f224:=Tryz.func147.trans (congrArg some (by kernel_rfl))
 f225:=Tryz.func146.trans (congrArg some (by kernel_rfl))
 f266:=Tryz.func145.trans (congrArg some (by kernel_rfl))
 f267:=Tryz.func148.trans (congrArg some (by kernel_rfl))
 f314:=Tryz.func164.trans (congrArg some (by kernel_rfl))
 t0:=Tryz.underlying0
 a0:=Tryz.isAgg0
 z0:=Tryz.sizeOf0
 v0:=Tryz.zeroValue0
 t3:=Tryz.underlying3
 a3:=Tryz.isAgg3
 z3:=Tryz.sizeOf3
 v3:=Tryz.zeroValue3
 t4:=Tryz.underlying4
 a4:=Tryz.isAgg4
 z4:=Tryz.sizeOf4
 v4:=Tryz.zeroValue4
 t5:=Tryz.underlying5
 a5:=Tryz.isAgg5
 z5:=Tryz.sizeOf5
 v5:=Tryz.zeroValue5
 t9:=Tryz.underlying9
 a9:=Tryz.isAgg9
 z9:=Tryz.sizeOf9
 v9:=Tryz.zeroValue9
 t46:=Tryz.underlying103
 a46:=Tryz.isAgg103
 z46:=Tryz.sizeOf103
 v46:=Tryz.zeroValue103
 t51:=Tryz.underlying133
 a51:=Tryz.isAgg133
 z51:=Tryz.sizeOf133
 v51:=Tryz.zeroValue133
 t146:=Tryz.underlying183
 a146:=Tryz.isAgg183
 z146:=Tryz.sizeOf183
 v146:=Tryz.zeroValue183
 g1:=by kernel_rfl }
end Go.Proofs.YtoanepondbagcaaGreatDoor
namespace Go.Proofs.YtoanepondbagcaaGreatDoor
open Go Go.RowKit
def isBk (c:UInt8):Bool:=c==9||c==32
def unbS (l:List UInt8):List UInt8:=l.filter fun c=>!isBk c
def bkN (l:List UInt8):Nat:=(l.filter isBk).length
theorem bk_len (l:List UInt8):(unbS l).length+bkN l=l.length:=by
 induction l with
 | nil=>rfl
 | cons c l ih=>
  unfold unbS bkN at *
  cases h:isBk c <;> simp [h] <;> omega
theorem bk_count (l:List UInt8):l.count 9+l.count 32=bkN l:=by
 induction l with
 | nil=>rfl
 | cons c l ih=>
  unfold bkN at *
  rw [List.count_cons,List.count_cons,List.filter_cons]
  by_cases h9:c=9
  .subst h9
   have:isBk 9=true:=rfl
   rw [if_pos this]
   simp; omega
  .by_cases h32:c=32
   .subst h32
    have:isBk 32=true:=rfl
    rw [if_pos this]
    simp; omega
   .have:isBk c=false:=by simp [isBk,h9,h32]
    rw [this]
    simp [h9,h32]; exact ih
theorem unb_none {l:List UInt8} (h:bkN l=0):unbS l=l:=by
 refine List.filter_eq_self.2 fun c hc=>?_
 unfold bkN at h
 have h0:=List.eq_nil_of_length_eq_zero h
 cases hb:isBk c with
 | false=>rfl
 | true=>
  have:c ∈ l.filter isBk:=List.mem_filter.2 ⟨hc,hb⟩
  rw [h0] at this; cases this
structure RpHid (p:Prop):Prop where
 out:p
structure RpAt (w:World) (S:Nat):Prop where
 ex:∃ arr:Array Value,w.heap[S+1]?=some (.cells arr 181 (0,0))/\arr[256]?=some (.slice (some ⟨S,0,none⟩) 2 2)/\
  (∀ c:UInt8,if isBk c=true then ∃ a k,arr[c.toNat]?=some (.slice (some a) 0 k) else arr[c.toNat]?=some (.slice none 0 0))
 t0:w.cell? ⟨S,0,none⟩=some (.string ⟨#[9]⟩)
 t1:w.cell? ⟨S,1,none⟩=some (.string ⟨#[32]⟩)
theorem bk_take (l:List UInt8) (i:Nat) (h:i < l.length):bkN (l.take (i+1))=bkN (l.take i)+(if isBk (l[i]'h)=true then 1 else 0):=by
 rw [List.take_add_one,List.getElem?_eq_getElem h]
 unfold bkN
 rw [List.filter_append,List.length_append]
 cases hb:isBk (l[i]'h) <;> simp [hb]
theorem unb_take (l:List UInt8) (i:Nat) (h:i < l.length):unbS (l.take (i+1))=unbS (l.take i)++(if isBk (l[i]'h)=true then [] else [l[i]'h]):=by
 rw [List.take_add_one,List.getElem?_eq_getElem h]
 unfold unbS
 rw [List.filter_append]
 cases hb:isBk (l[i]'h) <;> simp [hb]
def rowU (l:List UInt8) (n:Nat):Array Value:=(l.map (fun c=>Value.int .u8 (c.toNat:Int))++List.replicate (n - l.length) (Value.int .u8 0)).toArray
def RpBuf (w wx:World) (n:Nat) (l:List UInt8):Prop:=Below w.heap.size w wx/\wx.heap[w.heap.size]?=some (.cells (rowU l n) 5 (0,0))
theorem rowU_get {l:List UInt8} {n j:Nat} (hj:j < n) (hl:l.length<=n):∃ v,(rowU l n)[j]?=some v:=by
 have:j < (rowU l n).size:=by simp [rowU]; omega
 exact ⟨_,Array.getElem?_eq_getElem this⟩
theorem rowU_set (l:List UInt8) (n:Nat) (c:UInt8) (h:l.length < n):(rowU l n).setIfInBounds l.length (.int .u8 (c.toNat:Int))=rowU (l++[c]) n:=by
 unfold rowU
 rw [List.setIfInBounds_toArray]
 congr 1
 obtain ⟨k,hk⟩:∃ k,n - l.length=k+1:=⟨n - l.length - 1,by omega⟩
 have hk2:n - (l++[c]).length=k:=by simp; omega
 rw [hk,hk2,List.replicate_succ,List.set_append_right _ _ (by simp)]
 simp
theorem rowU_full (l:List UInt8):(rowU l l.length).toList=l.map fun c=>Value.int .u8 (c.toNat:Int):=by simp [rowU]
theorem unb_le (l:List UInt8) (i:Nat):(unbS (l.take i)).length<=(unbS l).length:=by
 have h:unbS l=unbS (l.take i)++unbS (l.drop i):=by
  unfold unbS
  rw [<-List.filter_append,List.take_append_drop]
 rw [h,List.length_append]; omega
theorem rp_conv {w wx:World} {l:List UInt8} (h:RpBuf w wx l.length l):(convert 25 9 (.slice (some ⟨w.heap.size,0,none⟩) l.length l.length)).run Tryz.prog wx=.ok (.string ⟨l.toArray⟩) wx:=by
 rw [Go.Am.run_convert_bytes (by kernel_rfl) _ ⟨_,_,_,rfl⟩]
 refine Go.Am.run_bytesToString w.heap.size 0 l.length l fun i d hd=>?_
 rw [Nat.zero_add,rp_row h.2,<-Array.getElem?_toList,rowU_full,List.getElem?_map,hd]
 rfl
theorem RpBuf.put {w wx:World} {l:List UInt8} {n:Nat} (h:RpBuf w wx n l) (hl:l.length < n) (c:UInt8):RpBuf w (wx.setCell ⟨w.heap.size,l.length,none⟩ (.int .u8 (c.toNat:Int))) n (l++[c]):=by
 refine ⟨h.1.setCell (Nat.le_refl _) _,?_⟩
 rw [setCell_eq_setRow wx w.heap.size l.length _ _ (0,0) _ h.2,setRow_heap wx _ _ _ _ _ h.2,rowU_set l n c hl]
theorem rp_hc {w wx:World} (h:wx.heap=w.heap) (a:Addr):wx.cell? a=w.cell? a:=by unfold World.cell?; rw [h]
set_option maxRecDepth 100000 in
set_option maxHeartbeats 8000000 in
theorem rp_run (S:Nat) (s:ByteArray) (hs:s.size<=1000000) (w:World) (hR:RpAt w S):
 Calls Tryz.prog 227 #[.pointer (some ⟨S+1,0,none⟩),.string s] w fun e w'=>e=.returned (.string ⟨(unbS s.data.toList).toArray⟩)/\Below w.heap.size w w':=by
 obtain ⟨⟨arr,q1,q2,q3⟩,t0,t1⟩:=hR
 have z256:w.cell? ⟨S+1,256,none⟩=some (.slice (some ⟨S,0,none⟩) 2 2):=by rw [rp_row q1]; exact q2
 have hnot:∀ (x:Bool) (w:World),(Op.unary .not (.bool x)).run Tryz.prog w=.ok (.bool (!x)) w:=fun _ _=>rfl
 obtain ⟨K,hK⟩:∃ K:UInt8->Nat,∀ c,s.data.toList.count c=K c:=⟨fun c=>s.data.toList.count c,fun _=>rfl⟩
 obtain ⟨N,hN⟩:∃ N,bkN s.data.toList=N:=⟨_,rfl⟩
 have hcnt:∀ (c:UInt8) (w:World),Calls Tryz.prog 55 #[.string s,.string ⟨#[c]⟩] w fun e w'=>e=.returned (.int .i64 (K c))/\w'=w:=fun c w=>by rw [<-hK]; exact Any.strings_Count_one lays138 s c w
 have hbk:K 9+K 32=N:=by rw [<-hK,<-hK,<-hN]; exact bk_count _
 have hbl:(unbS s.data.toList).length+N=s.size:=by rw [<-hN,bk_len,Array.length_toList]; rfl
 have z9:∃ a k,w.cell? ⟨S+1,9,none⟩=some (.slice (some a) 0 k):=by
  have h:=q3 9; rw [if_pos (show isBk 9=true from rfl)] at h; rw [rp_row q1]; exact h
 have z32:∃ a k,w.cell? ⟨S+1,32,none⟩=some (.slice (some a) 0 k):=by
  have h:=q3 32; rw [if_pos (show isBk 32=true from rfl)] at h; rw [rp_row q1]; exact h
 obtain ⟨a9,k9,z9⟩:=z9
 obtain ⟨a32,k32,z32⟩:=z32
 have e9:((⟨#[9]⟩:ByteArray)[0]'(by decide)).toNat=9:=rfl
 have e32:((⟨#[32]⟩:ByteArray)[0]'(by decide)).toNat=32:=rfl
 go_enter Tryz.func227,Tryz.ntmps227
 go_upto_if 26 with fail
 go_cut [5,6,8,9,10,11] from 16 (fun s5 s6 s8 s9 s10 s11 wc=>s5=.int .i64 ((s.size:Int) - N)/\s6=.bool (decide (N≠0))/\wc.heap=w.heap/\Below w.heap.size w wc)
 case first=>
  obtain ⟨d16,-⟩ | ⟨d16,-⟩:(decide ((16:Int)<=(s.size:Int))=true/\True)\/(decide ((16:Int)<=(s.size:Int))=false/\True):=by
   by_cases h:(16:Int)<=(s.size:Int)
   .exact .inl ⟨decide_eq_true h,trivial⟩
   .exact .inr ⟨decide_eq_false h,trivial⟩
  .rw [d16]
   clear d16
   go_wp2
   go_loopg [5,6,8,9,32] 2 (fun g s5 s6 s8 s9 s32 wx=>(wx.heap=w.heap/\Below w.heap.size w wx)/\((g=2/\s32=.int .i64 0/\s5=.int .i64 s.size/\s6=.bool false)\/(g=1/\s32=.int .i64 1/\s5=.int .i64 ((s.size:Int) - K 9)/\s6=.bool (decide (K 9≠0)))\/(g=0/\s32=.int .i64 2/\s5=.int .i64 ((s.size:Int) - N)/\s6=.bool (decide (N≠0)))))
   case atStart=>exact ⟨⟨rfl,Below.refl _ _⟩,.inl ⟨rfl,rfl,rfl,rfl⟩⟩
   case round=>
    obtain ⟨⟨hh,hB⟩,hrel⟩:=hrel
    have t0':=(rp_hc hh ⟨S,0,none⟩).trans t0
    have t1':=(rp_hc hh ⟨S,1,none⟩).trans t1
    have z9':=(rp_hc hh ⟨S+1,9,none⟩).trans z9
    have z32':=(rp_hc hh ⟨S+1,32,none⟩).trans z32
    rcases hrel with ⟨rfl,rfl,rfl,rfl⟩ | ⟨rfl,rfl,rfl,rfl⟩ | ⟨rfl,rfl,rfl,rfl⟩
    .obtain ⟨hz,hk⟩ | ⟨hz,hk⟩:((((K 9:Nat):Int) != 0)=false/\RpHid (K 9=0))\/((((K 9:Nat):Int) != 0)=true/\RpHid (K 9≠0)):=by
      by_cases h9:K 9=0
      .exact .inl ⟨by simp [h9],⟨h9⟩⟩
      .exact .inr ⟨by simp [h9],⟨h9⟩⟩
     .go_wp2_with (go_at_call 55; refine (hcnt 9 _).mono ?_; rintro e w' ⟨rfl,rfl⟩)
      go_roundg 1
      case measure=>omega
      case rel=>
       have h9:=hk.out
       exact ⟨⟨hh,hB⟩,.inr (.inl ⟨rfl,rfl,by rw [h9]; simp,by rw [h9]; rfl⟩)⟩
     .go_wp2_with (go_at_call 55; refine (hcnt 9 _).mono ?_; rintro e w' ⟨rfl,rfl⟩)
      go_region
      go_wp2
      go_roundg 1
      case measure=>omega
      case rel=>
       have h9:=hk.out
       exact ⟨⟨hh,hB.drew⟩,.inr (.inl ⟨rfl,rfl,by congr 1,by simp [h9]⟩)⟩
    .obtain ⟨hz,hk⟩ | ⟨hz,hk⟩:((((K 32:Nat):Int) != 0)=false/\RpHid (K 32=0))\/((((K 32:Nat):Int) != 0)=true/\RpHid (K 32≠0)):=by
      by_cases h9:K 32=0
      .exact .inl ⟨by simp [h9],⟨h9⟩⟩
      .exact .inr ⟨by simp [h9],⟨h9⟩⟩
     .go_wp2_with (go_at_call 55; refine (hcnt 32 _).mono ?_; rintro e w' ⟨rfl,rfl⟩)
      go_roundg 0
      case measure=>omega
      case rel=>
       have h9:=hk.out
       have hN9:N=K 9:=by omega
       exact ⟨⟨hh,hB⟩,.inr (.inr ⟨rfl,rfl,by rw [hN9],by rw [hN9]; simp⟩)⟩
     .go_wp2_with (go_at_call 55; refine (hcnt 32 _).mono ?_; rintro e w' ⟨rfl,rfl⟩)
      go_region
      go_wp2
      go_roundg 0
      case measure=>omega
      case rel=>
       have h9:=hk.out
       have hN0:N≠0:=by omega
       exact ⟨⟨hh,hB.drew⟩,.inr (.inr ⟨rfl,rfl,by congr 1; omega,by simp [hN0]⟩)⟩
    .go_wp2
     go_meet
     case rel=>exact ⟨rfl,rfl,hh,hB⟩
  .rw [d16]
   clear d16
   go_wp2
   go_loopg [5,6,10,11] s.size (fun g s5 s6 s10 s11 wx=>(wx.heap=w.heap/\Below w.heap.size w wx)/\∃ i m:Nat,i+g=s.size/\bkN (s.data.toList.take i)=m/\s10=.int .i64 i/\s5=.int .i64 ((s.size:Int) - m)/\s6=.bool (decide (m≠0)))
   case atStart=>exact ⟨⟨rfl,Below.refl _ _⟩,0,0,by omega,rfl,rfl,by simp,rfl⟩
   case round=>
    obtain ⟨⟨hh,hB⟩,i,m,hi,hm,rfl,rfl,rfl⟩:=hrel
    have hm:=RpHid.mk hm
    cases gk with
    | zero=>
     have hi2:i=s.size:=by omega
     subst hi2
     go_wp2
     go_meet
     case rel=>
      have hmN:m=N:=by
       rw [<-hm.out,<-hN,List.take_of_length_le (by rw [Array.length_toList]; exact Nat.le_refl _)]
      exact ⟨by rw [hmN],by rw [hmN],hh,hB⟩
    | succ g=>
     have hi2:i < s.size:=by omega
     obtain ⟨c,hc⟩:∃ c:UInt8,s[i]=c:=⟨_,rfl⟩
     have hc256:c.toNat < 256:=c.toNat_lt
     have hli:i < s.data.toList.length:=by rw [Array.length_toList]; exact hi2
     have hcl:s.data.toList[i]=c:=by rw [Array.getElem_toList]; exact hc
     have hstep:=RpHid.mk (bk_take s.data.toList i hli)
     have hq:=q3 c
     cases hb:isBk c with
     | true=>
      rw [hb,if_pos rfl] at hq
      obtain ⟨a,k,hq⟩:=hq
      have zc:wr.cell? ⟨S+1,c.toNat,none⟩=some (.slice (some a) 0 k):=by rw [rp_hc hh,rp_row q1]; exact hq
      have hne:∀ w:World,(binOp .neq 25 (.slice (some a) 0 k) (.slice none 0 0)).run Tryz.prog w=.ok (.bool true) w:=fun w=>rfl
      go_wp2
      go_roundg g
      case measure=>omega
      case rel=>
       have hs2:=hstep.out
       rw [hcl,hb,if_pos rfl,hm.out] at hs2
       have hml:=bk_len (s.data.toList.take i)
       rw [hm.out,List.length_take] at hml
       exact ⟨⟨hh,hB⟩,i+1,m+1,by omega,hs2,by simp,by congr 1; unfold wrap64; omega,by simp⟩
     | false=>
      rw [hb,if_neg (by decide)] at hq
      have zc:wr.cell? ⟨S+1,c.toNat,none⟩=some (.slice none 0 0):=by rw [rp_hc hh,rp_row q1]; exact hq
      have hne:∀ w:World,(binOp .neq 25 (.slice none 0 0) (.slice none 0 0)).run Tryz.prog w=.ok (.bool false) w:=fun w=>rfl
      go_wp2
      go_roundg g
      case measure=>omega
      case rel=>
       have hs2:=hstep.out
       rw [hcl,hb,if_neg (by decide),hm.out] at hs2
       exact ⟨⟨hh,hB⟩,i+1,m,by omega,hs2,by simp,rfl,rfl⟩
 case rest=>
  obtain ⟨rfl,rfl,hh,hB⟩:=hcut
  have hsz:wc.heap.size=w.heap.size:=by rw [hh]
  obtain ⟨n,hn⟩:∃ n,n=s.size - N:=⟨_,rfl⟩
  have hn2:(s.size:Int) - N=n:=by omega
  have hmk:∀ w:World,(Instr.makeSlice 25 (.int .i64 n) (.int .i64 n)).run Tryz.prog w=.ok (.slice (some ⟨w.heap.size,0,none⟩) n n) (w.alloc (.cells (madeCells #[.int .u8 0] n) 5)):=fun w=>by
   have h:=run_make (P:=Tryz.prog) w 25 5 Tryz.t5 (.int .u8 0) Tryz.underlying25 (by kernel_rfl) (by kernel_rfl) .i64 .i64 n n (by omega) (by omega) (by show ((1:Nat):Int) * n<=_; omega) (by omega)
   rw [h]
   simp only [Int.toNat_natCast]
   show Result.ok _ (w.alloc (.cells (madeCells #[.int .u8 0] (n * 1)) 5))=_
   rw [Nat.mul_one]
  rw [hn2]
  have hhH:=RpHid.mk hh
  have hszH:=RpHid.mk hsz
  clear hh hsz
  have hnH:=RpHid.mk hn
  have hnH2:=RpHid.mk hn2
  clear hn hn2
  by_cases h0:N=0
  .have hd:decide (N≠0)=false:=by simp [h0]
   rw [hd]
   go_wp2
   go_ret
   have e:(⟨(unbS s.data.toList).toArray⟩:ByteArray)=s:=by rw [unb_none (by rw [hN]; exact h0),Array.toArray_toList]
   rw [e]
   exact ⟨rfl,hB⟩
  .have hd:decide (N≠0)=true:=by simp [h0]
   rw [hd]
   have h0:=RpHid.mk h0
   go_wp2
   go_loopg [13,14,15] s.size (fun g s13 s14 s15 wx=>∃ (i:Nat) (L:List UInt8),i+g=s.size/\RpHid (unbS (s.data.toList.take i)=L)/\RpBuf wc wx n L/\s14=.int .i64 (i:Int)/\s13=.int .i64 (L.length:Int))
   case atStart=>
    refine ⟨0,[],by omega,⟨rfl⟩,⟨(Below.refl _ _).alloc (Nat.le_refl _) _,?_⟩,rfl,rfl⟩
    rw [heap_alloc_new wc]
    congr 2
    unfold rowU
    apply Array.ext'
    rw [toList_madeCells_one]
    simp
   case round=>
    obtain ⟨i,L,hi,hL,hbuf,rfl,rfl⟩:=hrel
    have hnn:=hnH.out
    cases gk with
    | zero=>
     have hi2:i=s.size:=by omega
     subst hi2
     have hLL:=hL.out
     rw [List.take_of_length_le (by rw [Array.length_toList]; exact Nat.le_refl _)] at hLL
     obtain rfl:n=L.length:=by rw [<-hLL]; omega
     have hcv:=rp_conv hbuf
     clear hnn hnH hnH2 hmk
     go_wp2
     go_ret
     rw [hLL]
     exact ⟨rfl,hB.trans (hbuf.1.mono (by rw [hszH.out]; exact Nat.le_refl _))⟩
    | succ g=>
     have hi2:i < s.size:=by omega
     obtain ⟨c,hc⟩:∃ c:UInt8,s[i]=c:=⟨_,rfl⟩
     have hc256:c.toNat < 256:=c.toNat_lt
     have hli:i < s.data.toList.length:=by rw [Array.length_toList]; exact hi2
     have hcl:s.data.toList[i]=c:=by rw [Array.getElem_toList]; exact hc
     have hstep:=RpHid.mk (unb_take s.data.toList i hli)
     have hle:=unb_le s.data.toList (i+1)
     have hle0:=unb_le s.data.toList i
     rw [hL.out] at hle0
     have hLn:L.length<=n:=by omega
     have hLn2:(L.length:Int)<=n:=by omega
     have hq:=q3 c
     have hold:=hbuf.1
     have k1:wr.heap[S+1]?=some (.cells arr 181 (0,0)):=by
      rw [hold.block _ (by rw [hszH.out]; exact (Array.getElem?_eq_some_iff.1 q1).1),hhH.out]; exact q1
     cases hb:isBk c with
     | true=>
      rw [hb,if_pos rfl] at hq
      obtain ⟨a,k,hq⟩:=hq
      have zc:wr.cell? ⟨S+1,c.toNat,none⟩=some (.slice (some a) 0 k):=by rw [rp_row k1]; exact hq
      have hne:∀ w:World,(binOp .neq 25 (.slice (some a) 0 k) (.slice none 0 0)).run Tryz.prog w=.ok (.bool true) w:=fun w=>rfl
      have hcp:∀ (p:Option Addr) (d q:Nat) (w:World),(Builtin.copy_ #[25,25] 3 #[.slice p d q,.slice (some a) 0 k]).run Tryz.prog w=.ok (.int .i64 0) w:=fun p d q w=>run_copy_none (P:=Tryz.prog) w 25 25 3 5 p (some a) d q 0 k Tryz.underlying25 (by kernel_rfl) (by simp)
      have hc256i:((c.toNat:Nat):Int) < 256:=by omega
      have hLB:L.length<=1000000:=by omega
      clear hnn hnH hnH2 hle hle0
      rcases Nat.eq_or_lt_of_le hLn with hnl | hnl
      .obtain rfl:n=L.length:=hnl.symm
       go_wp2
       go_region
       go_wp2
       go_roundg g
       case measure=>omega
       case rel=>
        have hs2:=hstep.out
        rw [hcl,hb,if_pos rfl,hL.out,List.append_nil] at hs2
        exact ⟨i+1,L,by omega,⟨hs2⟩,⟨hbuf.1.drew,hbuf.2⟩,by simp,by first | rfl | (congr 1; unfold wrap64; omega) | congr 1⟩
      .have hnl2:¬ n=L.length:=by omega
       clear hnl
       go_wp2
       go_region
       go_wp2
       go_roundg g
       case measure=>omega
       case rel=>
        have hs2:=hstep.out
        rw [hcl,hb,if_pos rfl,hL.out,List.append_nil] at hs2
        exact ⟨i+1,L,by omega,⟨hs2⟩,⟨hbuf.1.drew,hbuf.2⟩,by simp,by first | rfl | (congr 1; unfold wrap64; omega) | congr 1⟩
     | false=>
      rw [hb,if_neg (by decide)] at hq
      have zc:wr.cell? ⟨S+1,c.toNat,none⟩=some (.slice none 0 0):=by rw [rp_row k1]; exact hq
      have hne:∀ w:World,(binOp .neq 25 (.slice none 0 0) (.slice none 0 0)).run Tryz.prog w=.ok (.bool false) w:=fun w=>rfl
      have hs2:=hstep.out
      rw [hcl,hb,if_neg (by decide),hL.out] at hs2
      rw [hs2,List.length_append] at hle
      have hlt:L.length < n:=by simp at hle; omega
      have hlt2:(L.length:Int) < n:=by omega
      obtain ⟨v,hv⟩:=rowU_get hlt hLn
      have zb:wr.cell? ⟨wc.heap.size,L.length,none⟩=some v:=by rw [rp_row hbuf.2]; exact hv
      have yb:=rp_thaw hbuf.2 L.length
      have hput:=RpHid.mk (hbuf.put hlt c)
      have hs3:=RpHid.mk hs2
      have hLB:L.length<=1000000:=by omega
      clear hnn hnH hnH2 hle hle0 hs2 hv
      go_wp2
      go_roundg g
      case measure=>omega
      case rel=>exact ⟨i+1,L++[c],by omega,hs3,hput.out,by simp,by congr 1; rw [List.length_append]; simp only [List.length_cons,List.length_nil]; first | rfl | omega | (unfold wrap64; omega)⟩
end Go.Proofs.YtoanepondbagcaaGreatDoor
