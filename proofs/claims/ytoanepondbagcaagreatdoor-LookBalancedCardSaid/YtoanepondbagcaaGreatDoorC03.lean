/-
  Lifted functions, and facts about them.
-/
import Derived.Test.YtoanepondbagcaaGreatDoorRows
import Derived.Test.YtoanepondbagcaaGreatDoorAmC
import Derived.Test.YtoanepondbagcaaGreatDoorC02
import Derived.Test.YtoanepondbagcaaGreatDoorC01
namespace Go.Proofs.YtoanepondbagcaaGreatDoor
open Go Go.Am
set_option linter.unusedVariables false
section
open Go.RowKit Go.Lib
theorem two_look {α:Type} {i a b:Nat} {x y o:α} (h:lookO i [(a,x),(b,y)]=some o):(i=a/\o=x)\/(i=b/\o=y):=by
 have:=lookO_mem h
 simp only [List.mem_cons,Prod.mk.injEq,List.not_mem_nil,or_false] at this
 exact this
theorem two_none {α:Type} {i a b:Nat} {x y:α} (h:lookO i [(a,x),(b,y)]≠none):i=a\/i=b:=by
 cases hl:lookO i [(a,x),(b,y)] with
 | none=>exact absurd hl h
 | some o => rcases two_look hl with h | h
             .exact .inl h.1
             .exact .inr h.1
theorem FnR_grow (n:Nat) (h1n:1<=n) (hn:n<=281474976710656):
 FnR Tryz.prog 52 [.ref 70000 0,.p (.int .i64 (n:Int))] [(70000,.bldr 61 (.p .nil))] [70000] (.tup []) [(70000,.bldr 61 (.arr 70001001)),(70001001,.barr 5 false [])]:=by
 intro γ M w vs hO hnone hM hvs
 obtain ⟨b,v0,v1,hg,hh,h0,h1,h2,hm⟩:=bld_parts (id:=70000) hO rfl
 cases h1.p_inv
 cases hvs with
 | cons hx ht=>
  cases ht with
  | cons hy ht=>
  cases ht
  obtain ⟨b',hg',rfl⟩:=hx.ref_inv
  rw [hg] at hg'; cases hg'
  cases hy with | p _ _ hy=>
  cases hy with | int _ _ hi=>
  have hlt:b < w.heap.size:=hO.lo 70000 _ b (by simp [lookO]) hg rfl
  have hb:Go.Am.Handed γ [(70000,.bldr 61 (.p .nil))] b:=⟨70000,.cell b,by simp [lookO],hg,rfl⟩
  have hset:(w.setCell ⟨b,0,none⟩ (.pointer (some ⟨b,0,none⟩)))=w.setRow b #[.pointer (some ⟨b,0,none⟩),.slice none 0 0]:=by
   rw [setCell_eq_setRow w b 0 _ _ _ _ hh]; rfl
  obtain ⟨w1,hcc,hb1,hs1,ho1,hos,htp,hout⟩:∃ w1:World,(Calls Tryz.prog 80 #[.pointer (some ⟨b,0,none⟩)] w fun e w'=>e=.returned (.tuple #[])/\w'=w1)/\
   w1.heap[b]?=some (.cells #[.pointer (some ⟨b,0,none⟩),.slice none 0 0] 61 (0,0))/\w1.heap.size=w.heap.size/\(∀ c,c≠b->w1.heap[c]?=w.heap[c]?)/\w1.os=w.os/\w1.tape=w.tape/\w1.output=w.output:=by
   rcases h0 with rfl | rfl
   .refine ⟨_,cc_fresh b w (by rw [Lib.cell_of_heap hh]; rfl) (by simp [World.shape?,hh]) (Lib.frozen_of_heap hh 0),?_⟩
    rw [hset]
    exact ⟨setRow_heap w b _ _ _ _ hh,by simp,fun c hc=>setRow_other w b c _ hc,rfl,rfl,rfl⟩
   .exact ⟨w,cc_used b w (by rw [Lib.cell_of_heap hh]; rfl),hh,rfl,fun _ _=>rfl,rfl,rfl,rfl⟩
  refine (bG_fresh b n w w1 h1n hn hcc hb1).mono fun e w' ⟨he,cs,hcs,hheap,q1,q2,q3⟩=>?_
  have hrow:(w1.setCell ⟨b,1,none⟩ (.slice (some ⟨w1.heap.size,0,none⟩) 0 cs.size))=w1.setRow b #[.pointer (some ⟨b,0,none⟩),.slice (some ⟨w1.heap.size,0,none⟩) 0 cs.size]:=by
   rw [setCell_eq_setRow w1 b 1 _ _ _ _ hb1]; rfl
  rw [hrow] at hheap
  have hsz1:(w1.setRow b #[.pointer (some ⟨b,0,none⟩),.slice (some ⟨w1.heap.size,0,none⟩) 0 cs.size]).heap.size=w.heap.size:=by rw [<-hs1]; simp
  have hsz:w'.heap.size=w.heap.size+1:=by rw [hheap]; simp [hsz1]
  have hbb:w'.heap[b]?=some (.cells #[.pointer (some ⟨b,0,none⟩),.slice (some ⟨w.heap.size,0,none⟩) 0 cs.size] 61 (0,0)):=by
   rw [hheap,Lib.alloc_old _ _ b (by rw [hsz1]; exact hlt),setRow_heap w1 b _ _ _ _ hb1,hs1]
  have hnew:w'.heap[w.heap.size]?=some (.cells cs 5 (0,0)):=by
   rw [hheap,<-hsz1]; exact heap_alloc_new _ _
  have hoth:∀ c,c < w.heap.size->c≠b->w'.heap[c]?=w.heap[c]?:=fun c hc hcb=>by
   rw [hheap,Lib.alloc_old _ _ c (by rw [hsz1]; exact hc),setRow_other w1 b c _ hcb]; exact ho1 c hcb
  have hMn:∀ o,M w.heap.size o=none:=fun o=>by
   cases hv:M w.heap.size o with
   | none=>rfl
   | some v=>have:=hM _ _ _ hv; simp [World.cell?] at this
  refine ⟨_,upd γ 70001001 (some (.arr (some w.heap.size) 1 0 cs.size)),M,he,fun i hi g hgi=>?_,MLe.refl M,?_,.tup _ _ rfl (fun i hi=>absurd hi (Nat.not_lt_zero _)),⟨?_,?_,?_⟩,?_,by omega,q1.trans hos,q2.trans htp,q3.trans hout⟩
  .have:i=70000:=by simpa using hi
   subst this
   exact hgi
  .refine ⟨?_,hM.good⟩
   intro c o v hv
   have hc:c≠b:=fun e=>by subst e; rw [hm o] at hv; cases hv
   have hcl:c < w.heap.size:=by
    rcases Nat.lt_or_ge c w.heap.size with h | h
    .exact h
    .have:=hM c o v hv
     simp [World.cell?,Array.getElem?_eq_none h] at this
   rw [World.cell?_of_block (w:=w) (hoth c hcl hc)]; exact hM c o v hv
  .intro i o hi
   rcases two_look hi with ⟨rfl,rfl⟩ | ⟨rfl,rfl⟩
   .exact ⟨b,_,_,hg,hbb,.inr rfl,.arr 70001001 (some w.heap.size) 1 0 cs.size rfl,rfl,hm⟩
   .refine ⟨some w.heap.size,cs.size,rfl,⟨⟨rfl,.inr ⟨w.heap.size,cs.size,cs,rfl,Nat.zero_le _,hnew,Nat.zero_le _,hcs,by simp,by simp⟩⟩,fun v hv=>(by cases hv),Nat.zero_le _,fun g hgg=>?_⟩⟩
    cases hgg
    exact fun o=>by rw [hMn o]; rfl
  .intro i j g g' c hi hj hgi hgj hgc hgc'
   rcases two_none hi with rfl | rfl <;> rcases two_none hj with rfl | rfl
   .rfl
   .rw [show upd γ 70001001 (some (.arr (some w.heap.size) 1 0 cs.size)) 70000=γ 70000 from rfl,hg] at hgi
    cases hgi; cases hgj; cases hgc; cases hgc'
    exact absurd hlt (Nat.lt_irrefl _)
   .rw [show upd γ 70001001 (some (.arr (some w.heap.size) 1 0 cs.size)) 70000=γ 70000 from rfl,hg] at hgj
    cases hgi; cases hgj; cases hgc; cases hgc'
    exact absurd hlt (Nat.lt_irrefl _)
   .rfl
  .intro i g c hi hgi hgc
   rcases two_none hi with rfl | rfl
   .rw [show upd γ 70001001 (some (.arr (some w.heap.size) 1 0 cs.size)) 70000=γ 70000 from rfl,hg] at hgi
    cases hgi; cases hgc
    exact ⟨.inr hb,by omega⟩
   .cases hgi; cases hgc
    exact ⟨.inl (Nat.le_refl _),by omega⟩
  .intro c hc hno
   exact ⟨hoth c hc fun e=>hno (by rw [e]; exact hb),rfl⟩
def sp_grow:RSpec:=⟨[false,true],fun args ib=>match args,ib with
 | [.ref 70000 0,.p (.int .i64 n)],[(70000,.bldr 61 (.p .nil))]=>some (([70000],.tup []),([(70000,.bldr 61 (.arr 70001001)),(70001001,.barr 5 false [])],some (1<=n/\n<=281474976710656)))
 | _,_=>none⟩
theorem ok_grow:SpecROk Tryz.prog 52 sp_grow:=by
 intro args ib kept r outs ok he hok
 simp only [sp_grow] at he
 split at he
 .rename_i n
  cases he
  obtain ⟨h1,h2⟩:1<=n/\n<=281474976710656:=hok
  obtain ⟨n,rfl⟩:=Int.eq_ofNat_of_zero_le (show (0:Int)<=n by omega)
  exact ⟨by kernel_rfl,FnR_grow n (by omega) (by omega)⟩
 .cases he
end
end Go.Proofs.YtoanepondbagcaaGreatDoor
namespace Go.Proofs.YtoanepondbagcaaGreatDoor
open Go Go.Am
set_option linter.unusedVariables false
def cntS (s:List UInt8) (c:Int):Int:=((s.count c.toNat.toUInt8:Nat):Int)
def sp_extcs:List AV->Option (AV×Option Prop)
 | [.p (.str s),.p (.int .u8 c)]=>some (.p (.int .i64 (cntS s c)),none)
 | _=>none
theorem ok_extcs:SpecExt Tryz.prog 93 sp_extcs:=by
 intro zs r ok h hok M w vs hM hvs
 unfold sp_extcs at h
 split at h
 .rename_i s c
  cases h
  cases hvs with
  | cons h1 h2=>cases h2 with
   | cons h2 h3=>
    cases h3
    cases h1 with | p _ _ h1=>
    cases h2 with | p _ _ h2=>
    cases h1 with | str _ hs=>
    cases h2 with | int _ _ hc=>
    refine ⟨.int .i64 (cntS s c),?_,.p _ _ (.int _ _ ?_)⟩
    .rw [run_callFunc_extern (fn:=Tryz.f93) (e:=Extern.BytealgCount.count) (by kernel_rfl) (by kernel_rfl) (by kernel_rfl) (by kernel_rfl) (by kernel_rfl)]
     rw [Lib.run_countString]; rfl
    .have h1:=List.count_le_length (a:=c.toNat.toUInt8) (l:=s)
     exact has_i64 (by unfold maxLen at hs; unfold i64ok cntS; omega)
 .cases h
noncomputable def Gcnt:Cfg:=⟨Tryz.prog,mkEnv [(93,sp_extcs)],mkEnvR [],34,[],[],[]⟩
noncomputable def Fcnt (F:Nat) (s:List UInt8) (c:UInt8):Option Ans:=runF Gcnt Tryz.f55 F [.p (.str s),.p (.str [c])]
theorem Fcnt_eq (F:Nat) (s:List UInt8) (c:UInt8):Fcnt F s c=need (0<=(0:Int)/\(0:Int) < ([c].length:Int)) (some (.p (.int .i64 (cntS s (([c].getD ((0:Int)).toNat 0).toNat:Int))),[])):=by kernel_rfl
theorem fn_cnt (F:Nat) (s:List UInt8) (c:UInt8) (r:AV) (h:(∃ M vs,ARels γ0 M [.p (.str s),.p (.str [c])] vs)->Fcnt F s c=some (r,[])):FnP Tryz.prog 55 [.p (.str s),.p (.str [c])] r:=
 FnP_run Gcnt F rfl (EnvOk_mk (l:=[(93,sp_extcs)]) ⟨ok_extcs.any,trivial⟩) (EnvROk_mk (l:=[]) trivial) (Checked.mixed Tryz.checked) (fn:=Tryz.f55) (by kernel_rfl) (by kernel_rfl) rfl h
theorem cnt_eq (s:List UInt8) (c:UInt8):Fcnt 0 s c=some (.p (.int .i64 (cntS s (c.toNat:Int))),[]):=by
 rw [Fcnt_eq]
 exact need_mk (by simp) rfl
def sp_cnt:List AV->Option (AV×Option Prop)
 | [.p (.str s),.p (.str [c])]=>some (.p (.int .i64 (cntS s (c.toNat:Int))),none)
 | _=>none
theorem ok_cnt:SpecOk Tryz.prog 55 sp_cnt:=by
 intro zs r ok he hok
 unfold sp_cnt at he
 split at he
 .cases he; exact ⟨by kernel_rfl,fn_cnt 0 _ _ _ fun hx=>cnt_eq _ _⟩
 .cases he
noncomputable def crep:Code:=bodyOf Tryz.f136
noncomputable def Grep:Cfg:=⟨Tryz.prog,mkEnv [(55,sp_cnt),(94,sp_ix1)],mkEnvR [(48,sp_wstr),(51,sp_bstr),(52,sp_grow)],104,[],[([1,1,1],⟨[0,1,2,3],[]⟩),([0,1,0,1,0,1,1,1,1,1,1],⟨[0,1,2,10,11,52,53],[⟨.slot 10,10,.cells []⟩,⟨.cell 10 1,11001,(.barr 5 false [])⟩]⟩),([1,1,0,0,1,1,0,0,1,0,1,0,1,1,1,1,1,1],⟨[0,1,2,10,12,52,53],[⟨.slot 10,10,.cells []⟩,⟨.cell 10 1,11001,(.barr 5 false [])⟩]⟩),([1,1,1,1,1,1,1],⟨[0,10,11],[⟨.slot 10,10,.cells []⟩,⟨.cell 10 1,11001,(.barr 5 false [])⟩]⟩)],[([0,1,1,1,1],[10]),([0,1,0,0,1,1,0,0,1,0,1,0,1,1,1,1,1,1],[4]),([0,1,1,0,0,1,1,0,0,1,0,1,0,1,1,1,1,1,1],[1]),([0,1,1,1,1,1,1,1],[3]),([0,1,1,1,1,1,1,1,1],[0])]⟩
noncomputable def Brep_1 (F:Nat) (s:List UInt8) (c d:UInt8) (vi1:Int):Option Ans:=runB Grep crep (kP Tryz.prog Tryz.f136.results.toList) F [] [1,1,1] [(0,.p (.str s)),(1,.p (.str [c])),(2,.p (.str [d])),(3,.p (.int .i64 vi1))] []
noncomputable def Brep_2 (F f1:Nat) (s:List UInt8) (c d:UInt8) (vi2 vi1 vi3:Int) (vb4:List UInt8):Option Ans:=runR Grep crep (kP Tryz.prog Tryz.f136.results.toList) F [] [1,1,1,1,1,1,0,1,0,1,0] f1 [(0,.p (.str s)),(1,.p (.str [c])),(2,.p (.str [d])),(10,.ref 10 0),(11,.p (.int .i64 vi2)),(52,.p (.int .i64 vi1)),(53,.p (.int .i64 vi3))] [(10,.bldr 61 (.arr 11001)),(11001,.barr 5 false vb4)]
noncomputable def Brep_3 (F f1:Nat) (s:List UInt8) (c d:UInt8) (vi5 vi1 vi3:Int) (vb6:List UInt8):Option Ans:=runB Grep crep (kP Tryz.prog Tryz.f136.results.toList) F [f1] [1,1,1,1,1,1,0,1,0,1,0,0,1,1,0,0,1,1] [(0,.p (.str s)),(1,.p (.str [c])),(2,.p (.str [d])),(10,.ref 10 0),(12,.p (.int .i64 vi5)),(52,.p (.int .i64 vi1)),(53,.p (.int .i64 vi3))] [(10,.bldr 61 (.arr 11001)),(11001,.barr 5 false vb6)]
noncomputable def Brep_4 (F:Nat) (s:List UInt8) (vi7:Int) (vb8:List UInt8):Option Ans:=runB Grep crep (kP Tryz.prog Tryz.f136.results.toList) F [] [1,1,1,1,1,1,1] [(0,.p (.str s)),(10,.ref 10 0),(11,.p (.int .i64 vi7))] [(10,.bldr 61 (.arr 11001)),(11001,.barr 5 false vb8)]
noncomputable def Frep (F:Nat) (s:List UInt8) (c d:UInt8):Option Ans:=runF Grep Tryz.f136 F [.p (.str s),.p (.str [c]),.p (.str [d]),.p (.int .i64 (-1:Int))]
theorem Brep_1_eq (F:Nat) (s:List UInt8) (c d:UInt8) (vi1:Int):Brep_1 F s c d vi1=need (i64ok ((1:Int) - (1:Int))) (need (i64ok (vi1 * ((1:Int) - (1:Int)))) (need (i64ok ((s.length:Int)+(vi1 * ((1:Int) - (1:Int))))) (need (1<=((s.length:Int)+(vi1 * ((1:Int) - (1:Int))))/\((s.length:Int)+(vi1 * ((1:Int) - (1:Int))))<=281474976710656) (Brep_2 F F s c d (0:Int) vi1 (0:Int) ([]:List UInt8))))):=by kernel_rfl
theorem Brep_2_eq (F f1:Nat) (s:List UInt8) (c d:UInt8) (vi2 vi1 vi3:Int) (vb4:List UInt8):Brep_2 F (f1+1) s c d vi2 vi1 vi3 vb4=cond (decide (vi3 < vi1)) (need (0<=vi2/\vi2<=(s.length:Int)) (need (i64ok (vi2+(ixS (s.drop (vi2).toNat) (c.toNat:Int)))) (need (0<=vi2/\vi2<=(vi2+(ixS (s.drop (vi2).toNat) (c.toNat:Int)))/\(vi2+(ixS (s.drop (vi2).toNat) (c.toNat:Int)))<=(s.length:Int)) (need (vb4.length+((s.take (vi2+(ixS (s.drop (vi2).toNat) (c.toNat:Int))).toNat).drop (vi2).toNat).length<=140737488355328) (Brep_3 F f1 s c d (vi2+(ixS (s.drop (vi2).toNat) (c.toNat:Int))) vi1 vi3 (vb4++((s.take (vi2+(ixS (s.drop (vi2).toNat) (c.toNat:Int))).toNat).drop (vi2).toNat))))))) (Brep_4 F s vi2 vb4):=by kernel_rfl
theorem Brep_3_eq (F f1:Nat) (s:List UInt8) (c d:UInt8) (vi5 vi1 vi3:Int) (vb6:List UInt8):Brep_3 F f1 s c d vi5 vi1 vi3 vb6=need (vb6.length+[d].length<=140737488355328) (need (i64ok (vi5+(1:Int))) (need (i64ok (vi3+(1:Int))) (Brep_2 F f1 s c d (vi5+(1:Int)) vi1 (vi3+(1:Int)) (vb6++[d])))):=by kernel_rfl
theorem Brep_4_eq (F:Nat) (s:List UInt8) (vi7:Int) (vb8:List UInt8):Brep_4 F s vi7 vb8=need (0<=vi7/\vi7<=(s.length:Int)) (need (vb8.length+(s.drop (vi7).toNat).length<=140737488355328) (some (.p (.str (vb8++(s.drop (vi7).toNat))),[]))):=by kernel_rfl
theorem Frep_eq (F:Nat) (s:List UInt8) (c d:UInt8):Frep F s c d=((cond (([c]==[d])||false) (some (.p (.str s),[])) (cond ((cntS s (c.toNat:Int))==(0:Int)) (some (.p (.str s),[])) ((((cond (true||(decide ((cntS s (c.toNat:Int)) < (-1:Int)))) (Brep_1 F s c d (cntS s (c.toNat:Int))) (Brep_1 F s c d (-1:Int))))))))):=by
 have h:Frep F s c d=need ((!([c]==[d]))=true->(!([c]==[d]))=true) (need (([c]==[d])=false->(!([c]==[d]))=true) (cond (([c]==[d])||false) (some (.p (.str s),[])) (cond ((cntS s (c.toNat:Int))==(0:Int)) (some (.p (.str s),[])) (need ((!true)=true->(!true)=true) (need ((!true)=true->(!true)=true) (need (true=false->(!true)=true) (cond (true||(decide ((cntS s (c.toNat:Int)) < (-1:Int)))) (Brep_1 F s c d (cntS s (c.toNat:Int))) (Brep_1 F s c d (-1:Int))))))))):=by kernel_rfl
 rw [h,need_pos (show true=false->(!true)=true from (fun q0=>(not_mk q0))),need_pos (show (!true)=true->(!true)=true from (fun q0=>q0)),need_pos (show (!true)=true->(!true)=true from (fun q0=>q0)),need_pos (show ([c]==[d])=false->(!([c]==[d]))=true from (fun q0=>(not_mk q0))),need_pos (show (!([c]==[d]))=true->(!([c]==[d]))=true from (fun q0=>q0))]
theorem fn_rep (F:Nat) (s:List UInt8) (c d:UInt8) (r:AV) (h:(∃ M vs,ARels γ0 M [.p (.str s),.p (.str [c]),.p (.str [d]),.p (.int .i64 (-1:Int))] vs)->Frep F s c d=some (r,[])):FnP Tryz.prog 136 [.p (.str s),.p (.str [c]),.p (.str [d]),.p (.int .i64 (-1:Int))] r:=
 FnP_run Grep F rfl (EnvOk_mk (l:=[(55,sp_cnt),(94,sp_ix1)]) ⟨ok_cnt.any,ok_ix1.any,trivial⟩) (EnvROk_mk (l:=[(48,sp_wstr),(51,sp_bstr),(52,sp_grow)]) ⟨ok_wstr,ok_bstr,ok_grow,trivial⟩) (Checked.mixed Tryz.checked) (fn:=Tryz.f136) (by kernel_rfl) (by kernel_rfl) rfl h
def repS (s:List UInt8) (c d:UInt8):List UInt8:=s.map fun x=>if x=c then d else x
theorem rep_none {s:List UInt8} {c d:UInt8} (h:s.count c=0):repS s c d=s:=by
 unfold repS
 rw [List.count_eq_zero] at h
 induction s with
 | nil=>rfl
 | cons x r ih=>
  simp only [List.mem_cons,not_or] at h
  rw [List.map_cons,if_neg (fun e=>h.1 e.symm),ih h.2]
theorem first_at (c:UInt8):∀ {r:List UInt8} {k:Nat},r.count c=k+1->∃ p q,r=p++c::q/\p.count c=0/\q.count c=k/\Lib.indexByte r c=p.length
 | [],k,h=>by simp at h
 | x::r,k,h=>by
  by_cases e:x=c
  .subst e
   refine ⟨[],r,rfl,rfl,by simpa using h,?_⟩
   simp [Lib.indexByte]
  .rw [List.count_cons_of_ne e] at h
   obtain ⟨p,q,h1,h2,h3,h4⟩:=first_at c h
   refine ⟨x::p,q,by rw [h1]; rfl,by rw [List.count_cons_of_ne e]; exact h2,h3,?_⟩
   have hne:¬ (x==c)=true:=by simpa using e
   rw [Lib.indexByte,if_neg hne,h4,if_neg (by simp)]
   simp only [List.length_cons]; omega
theorem rep_app (a b:List UInt8) (c d:UInt8):repS (a++b) c d=repS a c d++repS b c d:=by simp [repS]
theorem Brep_spec (F:Nat) (s:List UInt8) (c d:UInt8) (hs:s.length<=1000000) (K:Nat):∀ (k f start i:Nat) (acc:List UInt8),(s.drop start).count c=k->k < f->start<=s.length->i+k=K->K<=1000000->acc.length<=start->
 Brep_2 F f s c d (start:Int) (K:Int) (i:Int) acc=some (.p (.str (acc++repS (s.drop start) c d)),[]):=by
 intro k
 induction k with
 | zero=>
  intro f start i acc hk hf hst hi hK ha
  cases f with
  | zero=>omega
  | succ f=>
   rw [Brep_2_eq]
   refine cond_f (by first | omega | (unfold i64ok; omega) | (simp only [List.length_cons,List.length_nil]; omega) | (simp; omega) | simp) ?_
   rw [Brep_4_eq]
   refine need_mk (by first | omega | (unfold i64ok; omega) | (simp only [List.length_cons,List.length_nil]; omega) | (simp; omega) | simp) ?_
   rw [show ((start:Int)).toNat=start from rfl]
   refine need_mk (by simp; omega) ?_
   rw [rep_none hk]
 | succ k ih=>
  intro f start i acc hk hf hst hi hK ha
  cases f with
  | zero=>omega
  | succ f=>
   obtain ⟨p,q,h1,h2,h3,h4⟩:=first_at c hk
   have hix:ixS (s.drop start) (c.toNat:Int)=(p.length:Int):=by unfold ixS; rw [u8c]; exact h4
   have hlen:s.length=start+p.length+1+q.length:=by
    have:=congrArg List.length h1
    simp at this; omega
   have htk:(s.take (start+p.length)).drop start=p:=by
    rw [List.drop_take,Nat.add_sub_cancel_left,h1,List.take_left']; rfl
   have hq:s.drop (start+p.length+1)=q:=by
    rw [Nat.add_assoc,<-List.drop_drop,h1]
    rw [List.drop_append,List.drop_eq_nil_of_le (by omega)]
    simp
   have e1:((start:Int)+(p.length:Int)).toNat=start+p.length:=by omega
   rw [Brep_2_eq]
   refine cond_t (by first | omega | (unfold i64ok; omega) | (simp only [List.length_cons,List.length_nil]; omega) | (simp; omega) | simp) ?_
   refine need_mk (by first | omega | (unfold i64ok; omega) | (simp only [List.length_cons,List.length_nil]; omega) | (simp; omega) | simp) ?_
   rw [show ((start:Int)).toNat=start from rfl,hix]
   refine need_mk (by first | omega | (unfold i64ok; omega) | (simp only [List.length_cons,List.length_nil]; omega) | (simp; omega) | simp) ?_
   refine need_mk (by first | omega | (unfold i64ok; omega) | (simp only [List.length_cons,List.length_nil]; omega) | (simp; omega) | simp) ?_
   rw [e1,htk]
   refine need_mk (by first | omega | (unfold i64ok; omega) | (simp only [List.length_cons,List.length_nil]; omega) | (simp; omega) | simp) ?_
   rw [Brep_3_eq]
   refine need_mk (by simp; omega) ?_
   refine need_mk (by first | omega | (unfold i64ok; omega) | (simp only [List.length_cons,List.length_nil]; omega) | (simp; omega) | simp) ?_
   refine need_mk (by first | omega | (unfold i64ok; omega) | (simp only [List.length_cons,List.length_nil]; omega) | (simp; omega) | simp) ?_
   have e2:(start:Int)+(p.length:Int)+1=((start+p.length+1:Nat):Int):=by omega
   have e3:(i:Int)+1=((i+1:Nat):Int):=by omega
   rw [e2,e3,ih f (start+p.length+1) (i+1) (acc++p++[d]) (by rw [hq]; exact h3) (by omega) (by omega) (by omega) hK (by simp; omega)]
   rw [hq,h1,rep_app,rep_none h2]
   congr 4
   simp [repS]
theorem rep_eq (s:List UInt8) (c d:UInt8) (hs:s.length<=1000000):Frep (s.length+1) s c d=some (.p (.str (repS s c d)),[]):=by
 rw [Frep_eq]
 by_cases hcd:c=d
 .refine cond_t (by simp [hcd]) ?_
  subst hcd
  have:repS s c c=s:=by
   unfold repS
   conv=>rhs; rw [<-List.map_id s]
   exact List.map_congr_left fun x _=>by split <;> simp_all
  rw [this]
 .refine cond_f (by simp [hcd]) ?_
  have hc:cntS s (c.toNat:Int)=(s.count c:Int):=by unfold cntS; rw [u8c]
  rw [hc]
  have hle:=List.count_le_length (a:=c) (l:=s)
  by_cases h0:s.count c=0
  .refine cond_t (by simp [h0]) ?_
   rw [rep_none h0]
  .refine cond_f (by simpa using h0) (cond_t rfl ?_)
   rw [Brep_1_eq]
   refine need_mk (by first | omega | (unfold i64ok; omega) | (simp only [List.length_cons,List.length_nil]; omega) | (simp; omega) | simp) ?_
   refine need_mk (by first | omega | (unfold i64ok; omega) | (simp only [List.length_cons,List.length_nil]; omega) | (simp; omega) | simp) ?_
   refine need_mk (by first | omega | (unfold i64ok; omega) | (simp only [List.length_cons,List.length_nil]; omega) | (simp; omega) | simp) ?_
   refine need_mk (by first | omega | (unfold i64ok; omega) | (simp only [List.length_cons,List.length_nil]; omega) | (simp; omega) | simp) ?_
   exact Brep_spec _ s c d hs (s.count c) (s.count c) (s.length+1) 0 0 [] rfl (by omega) (by omega) (by omega) (by omega) (by simp)
def sp_rep:List AV->Option (AV×Option Prop)
 | [.p (.str s),.p (.str [c]),.p (.str [d]),.p (.int .i64 (-1:Int))]=>some (.p (.str (repS s c d)),some (s.length<=1000000))
 | _=>none
theorem ok_rep:SpecOk Tryz.prog 136 sp_rep:=by
 intro zs r ok he hok
 unfold sp_rep at he
 split at he
 .cases he; exact ⟨by kernel_rfl,fn_rep (_) _ _ _ _ fun hx=>rep_eq _ _ _ hok⟩
 .cases he
noncomputable def Grepa:Cfg:=⟨Tryz.prog,mkEnv [(136,sp_rep)],mkEnvR [],11,[],[],[]⟩
noncomputable def Frepa (F:Nat) (s:List UInt8) (c d:UInt8):Option Ans:=runF Grepa Tryz.f104 F [.p (.str s),.p (.str [c]),.p (.str [d])]
theorem Frepa_eq (F:Nat) (s:List UInt8) (c d:UInt8):Frepa F s c d=need (s.length<=1000000) (some (.p (.str (repS s c d)),[])):=by kernel_rfl
theorem fn_repa (F:Nat) (s:List UInt8) (c d:UInt8) (r:AV) (h:(∃ M vs,ARels γ0 M [.p (.str s),.p (.str [c]),.p (.str [d])] vs)->Frepa F s c d=some (r,[])):FnP Tryz.prog 104 [.p (.str s),.p (.str [c]),.p (.str [d])] r:=
 FnP_run Grepa F rfl (EnvOk_mk (l:=[(136,sp_rep)]) ⟨ok_rep.any,trivial⟩) (EnvROk_mk (l:=[]) trivial) (Checked.mixed Tryz.checked) (fn:=Tryz.f104) (by kernel_rfl) (by kernel_rfl) rfl h
theorem repa_eq (s:List UInt8) (c d:UInt8) (hs:s.length<=1000000):Frepa 0 s c d=some (.p (.str (repS s c d)),[]):=by
 rw [Frepa_eq]; exact need_pos hs
def sp_repa:List AV->Option (AV×Option Prop)
 | [.p (.str s),.p (.str [c]),.p (.str [d])]=>some (.p (.str (repS s c d)),some (s.length<=1000000))
 | _=>none
theorem ok_repa:SpecOk Tryz.prog 104 sp_repa:=by
 intro zs r ok he hok
 unfold sp_repa at he
 split at he
 .cases he; exact ⟨by kernel_rfl,fn_repa 0 _ _ _ _ fun hx=>repa_eq _ _ _ hok⟩
 .cases he
end Go.Proofs.YtoanepondbagcaaGreatDoor
namespace Go.Proofs.YtoanepondbagcaaGreatDoor
open Go Go.Am
set_option linter.unusedVariables false
noncomputable def Ghpl:Cfg:=⟨Tryz.prog,mkEnv [],mkEnvR [],18,[],[],[]⟩
noncomputable def Fhpl (F:Nat) (s p:List UInt8):Option Ans:=runF Ghpl Tryz.f130 F [.p (.str s),.p (.str p)]
theorem Fhpl_eq (F:Nat) (s p:List UInt8):Fhpl F s p=(((need ((decide ((s.length:Int)>=(p.length:Int)))=true->0<=(p.length:Int)/\(p.length:Int)<=(s.length:Int)) ((((some (.p (.bool ((decide ((s.length:Int)>=(p.length:Int)))&&((s.take ((p.length:Int)).toNat)==p))),[])))))))):=by
 have h:Fhpl F s p=need ((decide ((s.length:Int)>=(p.length:Int)))=true->(decide ((s.length:Int)>=(p.length:Int)))=true) (need ((decide ((s.length:Int)>=(p.length:Int)))=true->(decide ((s.length:Int)>=(p.length:Int)))=true) (need ((decide ((s.length:Int)>=(p.length:Int)))=true->(decide ((s.length:Int)>=(p.length:Int)))=true) (need ((decide ((s.length:Int)>=(p.length:Int)))=true->0<=(p.length:Int)/\(p.length:Int)<=(s.length:Int)) (need ((decide ((s.length:Int)>=(p.length:Int)))=true->(decide ((s.length:Int)>=(p.length:Int)))=true) (need ((decide ((s.length:Int)>=(p.length:Int)))=true->(decide ((s.length:Int)>=(p.length:Int)))=true) (need ((decide ((s.length:Int)>=(p.length:Int)))=true->(decide ((s.length:Int)>=(p.length:Int)))=true) (some (.p (.bool ((decide ((s.length:Int)>=(p.length:Int)))&&((s.take ((p.length:Int)).toNat)==p))),[])))))))):=by kernel_rfl
 rw [h,need_pos (show (decide ((s.length:Int)>=(p.length:Int)))=true->(decide ((s.length:Int)>=(p.length:Int)))=true from (fun q0=>q0)),need_pos (show (decide ((s.length:Int)>=(p.length:Int)))=true->(decide ((s.length:Int)>=(p.length:Int)))=true from (fun q0=>q0)),need_pos (show (decide ((s.length:Int)>=(p.length:Int)))=true->(decide ((s.length:Int)>=(p.length:Int)))=true from (fun q0=>q0)),need_pos (show (decide ((s.length:Int)>=(p.length:Int)))=true->(decide ((s.length:Int)>=(p.length:Int)))=true from (fun q0=>q0)),need_pos (show (decide ((s.length:Int)>=(p.length:Int)))=true->(decide ((s.length:Int)>=(p.length:Int)))=true from (fun q0=>q0)),need_pos (show (decide ((s.length:Int)>=(p.length:Int)))=true->(decide ((s.length:Int)>=(p.length:Int)))=true from (fun q0=>q0))]
theorem fn_hpl (F:Nat) (s p:List UInt8) (r:AV) (h:(∃ M vs,ARels γ0 M [.p (.str s),.p (.str p)] vs)->Fhpl F s p=some (r,[])):FnP Tryz.prog 130 [.p (.str s),.p (.str p)] r:=
 FnP_run Ghpl F rfl (EnvOk_mk (l:=[]) trivial) (EnvROk_mk (l:=[]) trivial) (Checked.mixed Tryz.checked) (fn:=Tryz.f130) (by kernel_rfl) (by kernel_rfl) rfl h
def hasP (s p:List UInt8):Bool:=s.take p.length==p
theorem hpl_eq (s p:List UInt8):Fhpl 0 s p=some (.p (.bool (hasP s p)),[]):=by
 rw [Fhpl_eq]
 refine need_mk (fun h=>⟨by omega,by simpa using h⟩) ?_
 rw [show ((p.length:Int)).toNat=p.length from rfl]
 by_cases h:p.length<=s.length
 .rw [show decide ((s.length:Int)>=(p.length:Int))=true by simpa using h]; rfl
 .rw [show decide ((s.length:Int)>=(p.length:Int))=false by simpa using h,Bool.false_and]
  have:hasP s p=false:=by
   unfold hasP
   rw [beq_eq_false_iff_ne]
   intro e
   have:=congrArg List.length e
   simp at this; omega
  rw [this]
def sp_hpl:List AV->Option (AV×Option Prop)
 | [.p (.str s),.p (.str p)]=>some (.p (.bool (hasP s p)),none)
 | _=>none
theorem ok_hpl:SpecOk Tryz.prog 130 sp_hpl:=by
 intro zs r ok he hok
 unfold sp_hpl at he
 split at he
 .cases he; exact ⟨by kernel_rfl,fn_hpl 0 _ _ _ fun hx=>hpl_eq _ _⟩
 .cases he
noncomputable def Ghp:Cfg:=⟨Tryz.prog,mkEnv [(130,sp_hpl)],mkEnvR [],8,[],[],[]⟩
noncomputable def Fhp (F:Nat) (s p:List UInt8):Option Ans:=runF Ghp Tryz.f98 F [.p (.str s),.p (.str p)]
theorem Fhp_eq (F:Nat) (s p:List UInt8):Fhp F s p=some (.p (.bool (hasP s p)),[]):=by kernel_rfl
theorem fn_hp (F:Nat) (s p:List UInt8) (r:AV) (h:(∃ M vs,ARels γ0 M [.p (.str s),.p (.str p)] vs)->Fhp F s p=some (r,[])):FnP Tryz.prog 98 [.p (.str s),.p (.str p)] r:=
 FnP_run Ghp F rfl (EnvOk_mk (l:=[(130,sp_hpl)]) ⟨ok_hpl.any,trivial⟩) (EnvROk_mk (l:=[]) trivial) (Checked.mixed Tryz.checked) (fn:=Tryz.f98) (by kernel_rfl) (by kernel_rfl) rfl h
theorem hp_eq (s p:List UInt8):Fhp 0 s p=some (.p (.bool (hasP s p)),[]):=by rw [Fhp_eq]
def sp_hp:List AV->Option (AV×Option Prop)
 | [.p (.str s),.p (.str p)]=>some (.p (.bool (hasP s p)),none)
 | _=>none
theorem ok_hp:SpecOk Tryz.prog 98 sp_hp:=by
 intro zs r ok he hok
 unfold sp_hp at he
 split at he
 .cases he; exact ⟨by kernel_rfl,fn_hp 0 _ _ _ fun hx=>hp_eq _ _⟩
 .cases he
end Go.Proofs.YtoanepondbagcaaGreatDoor
namespace Go.Proofs.YtoanepondbagcaaGreatDoor
open Go Go.Am
set_option linter.unusedVariables false
abbrev wposok (s:List UInt8) (i:Int):Prop:=0<=i/\i<=s.length/\s.length<=100000
def inW (c:UInt8):Bool:=decide (33<=c.toNat)&&decide (c.toNat<=126)&&decide (c.toNat≠63)
def isBl (c:UInt8):Bool:=c==32||c==9
def runN (s:List UInt8) (i:Nat):Nat:=i+((s.drop i).takeWhile inW).length
def blN (s:List UInt8) (i:Nat):Nat:=i+((s.drop i).takeWhile isBl).length
def runS (s:List UInt8) (i:Int):Int:=(runN s i.toNat:Int)
def blankS (s:List UInt8) (i:Int):Int:=(blN s i.toNat:Int)
theorem tw_len {p:UInt8->Bool} (l:List UInt8):(l.takeWhile p).length<=l.length:=by
 induction l with
 | nil=>simp
 | cons c r ih=>rw [List.takeWhile_cons]; split <;> simp <;> omega
theorem runN_le {s:List UInt8} {i:Nat} (h:i<=s.length):i<=runN s i/\runN s i<=s.length:=by
 have:=tw_len (p:=inW) (s.drop i)
 simp at this
 unfold runN; omega
theorem blN_le {s:List UInt8} {i:Nat} (h:i<=s.length):i<=blN s i/\blN s i<=s.length:=by
 have:=tw_len (p:=isBl) (s.drop i)
 simp at this
 unfold blN; omega
noncomputable def cwrun:Code:=bodyOf Tryz.f103
noncomputable def Gwrun:Cfg:=⟨Tryz.prog,mkEnv [],mkEnvR [],30,[],[([0,0,1],⟨[0,1],[]⟩),([1,0,0,0,0,1],⟨[0,1,26],[]⟩)],[]⟩
noncomputable def Bwrun_1 (F f1:Nat) (s:List UInt8) (vi1:Int):Option Ans:=runR Gwrun cwrun (kP Tryz.prog Tryz.f103.results.toList) F [] [1,0,0] f1 [(0,.p (.str s)),(1,.p (.int .i64 vi1))] []
noncomputable def Bwrun_2 (F f1:Nat) (s:List UInt8) (vi1:Int) (vc2:Bool):Option Ans:=runB Gwrun cwrun (kP Tryz.prog Tryz.f103.results.toList) F [f1] [1,0,0,0,0,1] [(0,.p (.str s)),(1,.p (.int .i64 vi1)),(26,.p (.bool vc2))] []
noncomputable def Fwrun (F:Nat) (s:List UInt8) (i:Int):Option Ans:=runF Gwrun Tryz.f103 F [.p (.str s),.p (.int .i64 i)]
theorem Bwrun_1_eq (F f1:Nat) (s:List UInt8) (vi1:Int):Bwrun_1 F (f1+1) s vi1=need ((decide (vi1 < (s.length:Int)))=true->0<=vi1/\vi1 < (s.length:Int)) (need (((decide (vi1 < (s.length:Int)))&&(decide (((s.getD (vi1).toNat 0).toNat:Int)>=(33:Int))))=true->0<=vi1/\vi1 < (s.length:Int)) (need ((((decide (vi1 < (s.length:Int)))&&(decide (((s.getD (vi1).toNat 0).toNat:Int)>=(33:Int))))&&(decide (((s.getD (vi1).toNat 0).toNat:Int)<=(126:Int))))=true->0<=vi1/\vi1 < (s.length:Int)) (Bwrun_2 F f1 s vi1 ((((decide (vi1 < (s.length:Int)))&&(decide (((s.getD (vi1).toNat 0).toNat:Int)>=(33:Int))))&&(decide (((s.getD (vi1).toNat 0).toNat:Int)<=(126:Int))))&&(((s.getD (vi1).toNat 0).toNat:Int) != (63:Int)))))):=
 Eq.trans (show Bwrun_1 F (f1+1) s vi1=need ((decide (vi1 < (s.length:Int)))=true->(decide (vi1 < (s.length:Int)))=true) (need ((decide (vi1 < (s.length:Int)))=true->(decide (vi1 < (s.length:Int)))=true) (need ((decide (vi1 < (s.length:Int)))=true->0<=vi1/\vi1 < (s.length:Int)) (need ((decide (vi1 < (s.length:Int)))=true->(decide (vi1 < (s.length:Int)))=true) (need ((decide (vi1 < (s.length:Int)))=true->(decide (vi1 < (s.length:Int)))=true) (need (((decide (vi1 < (s.length:Int)))&&(decide (((s.getD (vi1).toNat 0).toNat:Int)>=(33:Int))))=true->((decide (vi1 < (s.length:Int)))&&(decide (((s.getD (vi1).toNat 0).toNat:Int)>=(33:Int))))=true) (need (((decide (vi1 < (s.length:Int)))&&(decide (((s.getD (vi1).toNat 0).toNat:Int)>=(33:Int))))=true->((decide (vi1 < (s.length:Int)))&&(decide (((s.getD (vi1).toNat 0).toNat:Int)>=(33:Int))))=true) (need (((decide (vi1 < (s.length:Int)))&&(decide (((s.getD (vi1).toNat 0).toNat:Int)>=(33:Int))))=true->0<=vi1/\vi1 < (s.length:Int)) (need (((decide (vi1 < (s.length:Int)))&&(decide (((s.getD (vi1).toNat 0).toNat:Int)>=(33:Int))))=true->((decide (vi1 < (s.length:Int)))&&(decide (((s.getD (vi1).toNat 0).toNat:Int)>=(33:Int))))=true) (need (((decide (vi1 < (s.length:Int)))&&(decide (((s.getD (vi1).toNat 0).toNat:Int)>=(33:Int))))=true->((decide (vi1 < (s.length:Int)))&&(decide (((s.getD (vi1).toNat 0).toNat:Int)>=(33:Int))))=true) (need ((((decide (vi1 < (s.length:Int)))&&(decide (((s.getD (vi1).toNat 0).toNat:Int)>=(33:Int))))&&(decide (((s.getD (vi1).toNat 0).toNat:Int)<=(126:Int))))=true->(((decide (vi1 < (s.length:Int)))&&(decide (((s.getD (vi1).toNat 0).toNat:Int)>=(33:Int))))&&(decide (((s.getD (vi1).toNat 0).toNat:Int)<=(126:Int))))=true) (need ((((decide (vi1 < (s.length:Int)))&&(decide (((s.getD (vi1).toNat 0).toNat:Int)>=(33:Int))))&&(decide (((s.getD (vi1).toNat 0).toNat:Int)<=(126:Int))))=true->(((decide (vi1 < (s.length:Int)))&&(decide (((s.getD (vi1).toNat 0).toNat:Int)>=(33:Int))))&&(decide (((s.getD (vi1).toNat 0).toNat:Int)<=(126:Int))))=true) (need ((((decide (vi1 < (s.length:Int)))&&(decide (((s.getD (vi1).toNat 0).toNat:Int)>=(33:Int))))&&(decide (((s.getD (vi1).toNat 0).toNat:Int)<=(126:Int))))=true->0<=vi1/\vi1 < (s.length:Int)) (need ((((decide (vi1 < (s.length:Int)))&&(decide (((s.getD (vi1).toNat 0).toNat:Int)>=(33:Int))))&&(decide (((s.getD (vi1).toNat 0).toNat:Int)<=(126:Int))))=true->(((decide (vi1 < (s.length:Int)))&&(decide (((s.getD (vi1).toNat 0).toNat:Int)>=(33:Int))))&&(decide (((s.getD (vi1).toNat 0).toNat:Int)<=(126:Int))))=true) (need ((((decide (vi1 < (s.length:Int)))&&(decide (((s.getD (vi1).toNat 0).toNat:Int)>=(33:Int))))&&(decide (((s.getD (vi1).toNat 0).toNat:Int)<=(126:Int))))=true->(((decide (vi1 < (s.length:Int)))&&(decide (((s.getD (vi1).toNat 0).toNat:Int)>=(33:Int))))&&(decide (((s.getD (vi1).toNat 0).toNat:Int)<=(126:Int))))=true) (Bwrun_2 F f1 s vi1 ((((decide (vi1 < (s.length:Int)))&&(decide (((s.getD (vi1).toNat 0).toNat:Int)>=(33:Int))))&&(decide (((s.getD (vi1).toNat 0).toNat:Int)<=(126:Int))))&&(((s.getD (vi1).toNat 0).toNat:Int) != (63:Int)))))))))))))))))) by kernel_rfl) (need_strike (show (decide (vi1 < (s.length:Int)))=true->(decide (vi1 < (s.length:Int)))=true from (fun q0=>q0)) (need_strike (show (decide (vi1 < (s.length:Int)))=true->(decide (vi1 < (s.length:Int)))=true from (fun q0=>q0)) (need_congr (need_strike (show (decide (vi1 < (s.length:Int)))=true->(decide (vi1 < (s.length:Int)))=true from (fun q0=>q0)) (need_strike (show (decide (vi1 < (s.length:Int)))=true->(decide (vi1 < (s.length:Int)))=true from (fun q0=>q0)) (need_strike (show ((decide (vi1 < (s.length:Int)))&&(decide (((s.getD (vi1).toNat 0).toNat:Int)>=(33:Int))))=true->((decide (vi1 < (s.length:Int)))&&(decide (((s.getD (vi1).toNat 0).toNat:Int)>=(33:Int))))=true from (fun q0=>q0)) (need_strike (show ((decide (vi1 < (s.length:Int)))&&(decide (((s.getD (vi1).toNat 0).toNat:Int)>=(33:Int))))=true->((decide (vi1 < (s.length:Int)))&&(decide (((s.getD (vi1).toNat 0).toNat:Int)>=(33:Int))))=true from (fun q0=>q0)) (need_congr (need_strike (show ((decide (vi1 < (s.length:Int)))&&(decide (((s.getD (vi1).toNat 0).toNat:Int)>=(33:Int))))=true->((decide (vi1 < (s.length:Int)))&&(decide (((s.getD (vi1).toNat 0).toNat:Int)>=(33:Int))))=true from (fun q0=>q0)) (need_strike (show ((decide (vi1 < (s.length:Int)))&&(decide (((s.getD (vi1).toNat 0).toNat:Int)>=(33:Int))))=true->((decide (vi1 < (s.length:Int)))&&(decide (((s.getD (vi1).toNat 0).toNat:Int)>=(33:Int))))=true from (fun q0=>q0)) (need_strike (show (((decide (vi1 < (s.length:Int)))&&(decide (((s.getD (vi1).toNat 0).toNat:Int)>=(33:Int))))&&(decide (((s.getD (vi1).toNat 0).toNat:Int)<=(126:Int))))=true->(((decide (vi1 < (s.length:Int)))&&(decide (((s.getD (vi1).toNat 0).toNat:Int)>=(33:Int))))&&(decide (((s.getD (vi1).toNat 0).toNat:Int)<=(126:Int))))=true from (fun q0=>q0)) (need_strike (show (((decide (vi1 < (s.length:Int)))&&(decide (((s.getD (vi1).toNat 0).toNat:Int)>=(33:Int))))&&(decide (((s.getD (vi1).toNat 0).toNat:Int)<=(126:Int))))=true->(((decide (vi1 < (s.length:Int)))&&(decide (((s.getD (vi1).toNat 0).toNat:Int)>=(33:Int))))&&(decide (((s.getD (vi1).toNat 0).toNat:Int)<=(126:Int))))=true from (fun q0=>q0)) (need_congr (need_strike (show (((decide (vi1 < (s.length:Int)))&&(decide (((s.getD (vi1).toNat 0).toNat:Int)>=(33:Int))))&&(decide (((s.getD (vi1).toNat 0).toNat:Int)<=(126:Int))))=true->(((decide (vi1 < (s.length:Int)))&&(decide (((s.getD (vi1).toNat 0).toNat:Int)>=(33:Int))))&&(decide (((s.getD (vi1).toNat 0).toNat:Int)<=(126:Int))))=true from (fun q0=>q0)) (need_strike (show (((decide (vi1 < (s.length:Int)))&&(decide (((s.getD (vi1).toNat 0).toNat:Int)>=(33:Int))))&&(decide (((s.getD (vi1).toNat 0).toNat:Int)<=(126:Int))))=true->(((decide (vi1 < (s.length:Int)))&&(decide (((s.getD (vi1).toNat 0).toNat:Int)>=(33:Int))))&&(decide (((s.getD (vi1).toNat 0).toNat:Int)<=(126:Int))))=true from (fun q0=>q0)) (rfl))))))))))))))))
theorem Bwrun_2_eq (F f1:Nat) (s:List UInt8) (vi1:Int) (vc2:Bool):Bwrun_2 F f1 s vi1 vc2=cond (vc2) (need (i64ok (vi1+(1:Int))) (Bwrun_1 F f1 s (vi1+(1:Int)))) (some (.p (.int .i64 vi1),[])):=by kernel_rfl
theorem Fwrun_eq (F:Nat) (s:List UInt8) (i:Int):Fwrun F s i=Bwrun_1 F F s i:=by kernel_rfl
theorem fn_wrun (F:Nat) (s:List UInt8) (i:Int) (r:AV) (h:(∃ M vs,ARels γ0 M [.p (.str s),.p (.int .i64 i)] vs)->Fwrun F s i=some (r,[])):FnP Tryz.prog 103 [.p (.str s),.p (.int .i64 i)] r:=
 FnP_run Gwrun F rfl (EnvOk_mk (l:=[]) trivial) (EnvROk_mk (l:=[]) trivial) (Checked.mixed Tryz.checked) (fn:=Tryz.f103) (by kernel_rfl) (by kernel_rfl) rfl h
noncomputable def cwbl:Code:=bodyOf Tryz.f66
noncomputable def Gwbl:Cfg:=⟨Tryz.prog,mkEnv [],mkEnvR [],24,[],[([0,0,1],⟨[0,1],[]⟩),([1,0,0,0,0,1],⟨[0,1,20],[]⟩)],[]⟩
noncomputable def Bwbl_1 (F f1:Nat) (s:List UInt8) (vi1:Int):Option Ans:=runR Gwbl cwbl (kP Tryz.prog Tryz.f66.results.toList) F [] [1,0,0] f1 [(0,.p (.str s)),(1,.p (.int .i64 vi1))] []
noncomputable def Bwbl_2 (F f1:Nat) (s:List UInt8) (vi1:Int) (vc2:Bool):Option Ans:=runB Gwbl cwbl (kP Tryz.prog Tryz.f66.results.toList) F [f1] [1,0,0,0,0,1] [(0,.p (.str s)),(1,.p (.int .i64 vi1)),(20,.p (.bool vc2))] []
noncomputable def Fwbl (F:Nat) (s:List UInt8) (i:Int):Option Ans:=runF Gwbl Tryz.f66 F [.p (.str s),.p (.int .i64 i)]
theorem Bwbl_1_eq (F f1:Nat) (s:List UInt8) (vi1:Int):Bwbl_1 F (f1+1) s vi1=need ((decide (vi1 < (s.length:Int)))=true->0<=vi1/\vi1 < (s.length:Int)) (need (((decide (vi1 < (s.length:Int)))&&(!(((s.getD (vi1).toNat 0).toNat:Int)==(32:Int))))=true->0<=vi1/\vi1 < (s.length:Int)) (Bwbl_2 F f1 s vi1 ((decide (vi1 < (s.length:Int)))&&((((s.getD (vi1).toNat 0).toNat:Int)==(32:Int))||(((s.getD (vi1).toNat 0).toNat:Int)==(9:Int)))))):=
 Eq.trans (show Bwbl_1 F (f1+1) s vi1=need ((decide (vi1 < (s.length:Int)))=true->(decide (vi1 < (s.length:Int)))=true) (need ((decide (vi1 < (s.length:Int)))=true->(decide (vi1 < (s.length:Int)))=true) (need ((decide (vi1 < (s.length:Int)))=true->0<=vi1/\vi1 < (s.length:Int)) (need ((decide (vi1 < (s.length:Int)))=true->(decide (vi1 < (s.length:Int)))=true) (need ((decide (vi1 < (s.length:Int)))=true->(decide (vi1 < (s.length:Int)))=true) (need (((decide (vi1 < (s.length:Int)))&&(!(((s.getD (vi1).toNat 0).toNat:Int)==(32:Int))))=true->((decide (vi1 < (s.length:Int)))&&(!(((s.getD (vi1).toNat 0).toNat:Int)==(32:Int))))=true) (need (((decide (vi1 < (s.length:Int)))&&(!(((s.getD (vi1).toNat 0).toNat:Int)==(32:Int))))=true->((decide (vi1 < (s.length:Int)))&&(!(((s.getD (vi1).toNat 0).toNat:Int)==(32:Int))))=true) (need (((decide (vi1 < (s.length:Int)))&&(!(((s.getD (vi1).toNat 0).toNat:Int)==(32:Int))))=true->0<=vi1/\vi1 < (s.length:Int)) (need (((decide (vi1 < (s.length:Int)))&&(!(((s.getD (vi1).toNat 0).toNat:Int)==(32:Int))))=true->((decide (vi1 < (s.length:Int)))&&(!(((s.getD (vi1).toNat 0).toNat:Int)==(32:Int))))=true) (need ((decide (vi1 < (s.length:Int)))=true->(decide (vi1 < (s.length:Int)))=true) (need ((decide (vi1 < (s.length:Int)))=true->(((s.getD (vi1).toNat 0).toNat:Int)==(32:Int))=false->((decide (vi1 < (s.length:Int)))&&(!(((s.getD (vi1).toNat 0).toNat:Int)==(32:Int))))=true) (need ((decide (vi1 < (s.length:Int)))=true->(decide (vi1 < (s.length:Int)))=true) (Bwbl_2 F f1 s vi1 ((decide (vi1 < (s.length:Int)))&&((((s.getD (vi1).toNat 0).toNat:Int)==(32:Int))||(((s.getD (vi1).toNat 0).toNat:Int)==(9:Int)))))))))))))))) by kernel_rfl) (need_strike (show (decide (vi1 < (s.length:Int)))=true->(decide (vi1 < (s.length:Int)))=true from (fun q0=>q0)) (need_strike (show (decide (vi1 < (s.length:Int)))=true->(decide (vi1 < (s.length:Int)))=true from (fun q0=>q0)) (need_congr (need_strike (show (decide (vi1 < (s.length:Int)))=true->(decide (vi1 < (s.length:Int)))=true from (fun q0=>q0)) (need_strike (show (decide (vi1 < (s.length:Int)))=true->(decide (vi1 < (s.length:Int)))=true from (fun q0=>q0)) (need_strike (show ((decide (vi1 < (s.length:Int)))&&(!(((s.getD (vi1).toNat 0).toNat:Int)==(32:Int))))=true->((decide (vi1 < (s.length:Int)))&&(!(((s.getD (vi1).toNat 0).toNat:Int)==(32:Int))))=true from (fun q0=>q0)) (need_strike (show ((decide (vi1 < (s.length:Int)))&&(!(((s.getD (vi1).toNat 0).toNat:Int)==(32:Int))))=true->((decide (vi1 < (s.length:Int)))&&(!(((s.getD (vi1).toNat 0).toNat:Int)==(32:Int))))=true from (fun q0=>q0)) (need_congr (need_strike (show ((decide (vi1 < (s.length:Int)))&&(!(((s.getD (vi1).toNat 0).toNat:Int)==(32:Int))))=true->((decide (vi1 < (s.length:Int)))&&(!(((s.getD (vi1).toNat 0).toNat:Int)==(32:Int))))=true from (fun q0=>q0)) (need_strike (show (decide (vi1 < (s.length:Int)))=true->(decide (vi1 < (s.length:Int)))=true from (fun q0=>q0)) (need_strike (show (decide (vi1 < (s.length:Int)))=true->(((s.getD (vi1).toNat 0).toNat:Int)==(32:Int))=false->((decide (vi1 < (s.length:Int)))&&(!(((s.getD (vi1).toNat 0).toNat:Int)==(32:Int))))=true from (fun q0 q1=>(and_mk q0 (not_mk q1)))) (need_strike (show (decide (vi1 < (s.length:Int)))=true->(decide (vi1 < (s.length:Int)))=true from (fun q0=>q0)) (rfl)))))))))))))
theorem Bwbl_2_eq (F f1:Nat) (s:List UInt8) (vi1:Int) (vc2:Bool):Bwbl_2 F f1 s vi1 vc2=cond (vc2) (need (i64ok (vi1+(1:Int))) (Bwbl_1 F f1 s (vi1+(1:Int)))) (some (.p (.int .i64 vi1),[])):=by kernel_rfl
theorem Fwbl_eq (F:Nat) (s:List UInt8) (i:Int):Fwbl F s i=Bwbl_1 F F s i:=by kernel_rfl
theorem fn_wbl (F:Nat) (s:List UInt8) (i:Int) (r:AV) (h:(∃ M vs,ARels γ0 M [.p (.str s),.p (.int .i64 i)] vs)->Fwbl F s i=some (r,[])):FnP Tryz.prog 66 [.p (.str s),.p (.int .i64 i)] r:=
 FnP_run Gwbl F rfl (EnvOk_mk (l:=[]) trivial) (EnvROk_mk (l:=[]) trivial) (Checked.mixed Tryz.checked) (fn:=Tryz.f66) (by kernel_rfl) (by kernel_rfl) rfl h
theorem inW_dec (i:Int) (n:Nat) (c:UInt8) (h:i < (n:Int)):((((decide (i < (n:Int)))&&(decide ((c.toNat:Int)>=(33:Int))))&&(decide ((c.toNat:Int)<=(126:Int))))&&((c.toNat:Int) != (63:Int)))=inW c:=by
 rw [show decide (i < (n:Int))=true by simpa using h,Bool.true_and]
 unfold inW
 congr 1
 .congr 1
  .exact decide_eq_decide.2 (by omega)
  .exact decide_eq_decide.2 (by omega)
 .by_cases e:c.toNat=63
  .rw [e]; rfl
  .rw [show decide (c.toNat≠63)=true by simpa using e]
   simp; omega
theorem Bwrun_spec (F:Nat) (s:List UInt8) (hs:s.length<=1000000):∀ (r:List UInt8) (f i:Nat),s.drop i=r->r.length < f->i<=s.length->
 Bwrun_1 F f s (i:Int)=some (.p (.int .i64 ((i+(r.takeWhile inW).length:Nat):Int)),[]):=by
 intro r
 induction r with
 | nil=>
  intro f i hd hf hi
  have:i=s.length:=by have:=congrArg List.length hd; simp at this; omega
  cases f with
  | zero=>omega
  | succ f=>
   have hd:decide ((i:Int) < (s.length:Int))=false:=by simp; omega
   rw [Bwrun_1_eq,hd]
   simp only [Bool.false_and]
   refine need_mk (fun h=>by cases h) (need_mk (fun h=>by cases h) (need_mk (fun h=>by cases h) ?_))
   rw [Bwrun_2_eq]
   exact cond_f rfl rfl
 | cons c r ih=>
  intro f i hd hf hi
  obtain ⟨h1,h2,h3⟩:=drop_cons hd
  cases f with
  | zero=>omega
  | succ f=>
   rw [Bwrun_1_eq]
   refine need_mk (fun _=>by omega) (need_mk (fun _=>by omega) (need_mk (fun _=>by omega) ?_))
   rw [Int.toNat_natCast,h1,inW_dec _ _ _ (by omega),Bwrun_2_eq,List.takeWhile_cons]
   by_cases hw:inW c=true
   .refine cond_t hw ?_
    refine need_mk (by first | omega | (unfold i64ok; omega) | (simp only [List.length_cons,List.length_nil]; omega) | (simp; omega) | simp) ?_
    have e:(i:Int)+1=((i+1:Nat):Int):=by omega
    rw [e,ih f (i+1) h2 (by simp at hf; omega) (by omega),if_pos hw]
    congr 5
    simp only [List.length_cons]; omega
   .refine cond_f (by simpa using hw) ?_
    rw [if_neg hw]; rfl
theorem wrun_eq (s:List UInt8) (i:Int) (h:wposok s i):Fwrun (s.length+1) s i=some (.p (.int .i64 (runS s i)),[]):=by
 obtain ⟨h0,h1,h2⟩:=h
 obtain ⟨i,rfl⟩:=Int.eq_ofNat_of_zero_le h0
 rw [Fwrun_eq]
 exact Bwrun_spec _ s (by omega) _ (s.length+1) i rfl (by simp; omega) (by omega)
def sp_wrun:List AV->Option (AV×Option Prop)
 | [.p (.str s),.p (.int .i64 i)]=>some (.p (.int .i64 (runS s i)),some (wposok s i))
 | _=>none
theorem ok_wrun:SpecOk Tryz.prog 103 sp_wrun:=by
 intro zs r ok he hok
 unfold sp_wrun at he
 split at he
 .cases he; exact ⟨by kernel_rfl,fn_wrun (_) _ _ _ fun hx=>wrun_eq _ _ hok⟩
 .cases he
theorem isBl_dec (c:UInt8):(((c.toNat:Int)==(32:Int))||((c.toNat:Int)==(9:Int)))=isBl c:=by
 unfold isBl
 have e:∀ d:UInt8,((c.toNat:Int)==(d.toNat:Int))=(c==d):=fun d=>by
  rw [Bool.eq_iff_iff]; simp only [beq_iff_eq]; exact u8_eq
 rw [<-e 32,<-e 9]; rfl
theorem Bwbl_spec (F:Nat) (s:List UInt8) (hs:s.length<=1000000):∀ (r:List UInt8) (f i:Nat),s.drop i=r->r.length < f->i<=s.length->
 Bwbl_1 F f s (i:Int)=some (.p (.int .i64 ((i+(r.takeWhile isBl).length:Nat):Int)),[]):=by
 intro r
 induction r with
 | nil=>
  intro f i hd hf hi
  have:i=s.length:=by have:=congrArg List.length hd; simp at this; omega
  cases f with
  | zero=>omega
  | succ f=>
   have hd:decide ((i:Int) < (s.length:Int))=false:=by simp; omega
   rw [Bwbl_1_eq,hd]
   simp only [Bool.false_and]
   refine need_mk (fun h=>by cases h) (need_mk (fun h=>by cases h) ?_)
   rw [Bwbl_2_eq]
   exact cond_f rfl rfl
 | cons c r ih=>
  intro f i hd hf hi
  obtain ⟨h1,h2,h3⟩:=drop_cons hd
  cases f with
  | zero=>omega
  | succ f=>
   have ht:decide ((i:Int) < (s.length:Int))=true:=by simp; omega
   rw [Bwbl_1_eq]
   refine need_mk (fun _=>by omega) (need_mk (fun _=>by omega) ?_)
   rw [Int.toNat_natCast,h1,isBl_dec,ht,Bool.true_and,Bwbl_2_eq,List.takeWhile_cons]
   by_cases hw:isBl c=true
   .refine cond_t hw ?_
    refine need_mk (by first | omega | (unfold i64ok; omega) | (simp only [List.length_cons,List.length_nil]; omega) | (simp; omega) | simp) ?_
    have e:(i:Int)+1=((i+1:Nat):Int):=by omega
    rw [e,ih f (i+1) h2 (by simp at hf; omega) (by omega),if_pos hw]
    congr 5
    simp only [List.length_cons]; omega
   .refine cond_f (by simpa using hw) ?_
    rw [if_neg hw]; rfl
theorem wbl_eq (s:List UInt8) (i:Int) (h:wposok s i):Fwbl (s.length+1) s i=some (.p (.int .i64 (blankS s i)),[]):=by
 obtain ⟨h0,h1,h2⟩:=h
 obtain ⟨i,rfl⟩:=Int.eq_ofNat_of_zero_le h0
 rw [Fwbl_eq]
 exact Bwbl_spec _ s (by omega) _ (s.length+1) i rfl (by simp; omega) (by omega)
def sp_wbl:List AV->Option (AV×Option Prop)
 | [.p (.str s),.p (.int .i64 i)]=>some (.p (.int .i64 (blankS s i)),some (wposok s i))
 | _=>none
theorem ok_wbl:SpecOk Tryz.prog 66 sp_wbl:=by
 intro zs r ok he hok
 unfold sp_wbl at he
 split at he
 .cases he; exact ⟨by kernel_rfl,fn_wbl (_) _ _ _ fun hx=>wbl_eq _ _ hok⟩
 .cases he
noncomputable def csays:Code:=bodyOf Tryz.f105
noncomputable def Gsays:Cfg:=⟨Tryz.prog,mkEnv [(61,sp_Fold),(62,sp_uvalid),(63,sp_Put)],mkEnvR [(48,sp_wstr),(51,sp_bstr)],31,[],[([1,0,1,0,1],⟨[1,9,10],[]⟩),([0,1,0,1,0,1,1,1,0,1,0,1],⟨[1,6,19,20],[⟨.slot 6,6,.cells []⟩,⟨.cell 6 1,7001,(.barr 5 false [])⟩]⟩)],[([1,0,0,1,1,0,0,1,0,1,0,1,1,1,0,1,0,1],[5]),([0,1,1,0,1,1,1,0,1,0,1],[0])]⟩
noncomputable def Bsays_1 (F:Nat) (b vs1:List UInt8) (vc2:Bool):Option Ans:=runB Gsays csays (kP Tryz.prog Tryz.f105.results.toList) F [] [1,0,1,0,1] [(1,.p (.str b)),(9,.p (.str vs1)),(10,.p (.bool vc2))] []
noncomputable def Bsays_2 (F f1:Nat) (b:List UInt8) (vi3 vi4:Int) (vb5:List UInt8):Option Ans:=runR Gsays csays (kP Tryz.prog Tryz.f105.results.toList) F [] [1,0,1,0,1,1,1,0,1,0,1,0] f1 [(1,.p (.str b)),(6,.ref 6 0),(19,.p (.int .i64 vi3)),(20,.p (.int .i64 vi4))] [(6,.bldr 61 (.arr 7001)),(7001,.barr 5 false vb5)]
noncomputable def Fsays (F:Nat) (s b:List UInt8):Option Ans:=runF Gsays Tryz.f105 F [.p (.str s),.p (.str b)]
theorem Bsays_1_eq (F:Nat) (b vs1:List UInt8) (vc2:Bool):Bsays_1 F b vs1 vc2=cond (vc2) (need (b.length<=1000000) (some (.tup [.p (.str b),.p (.bool (validS b))],[]))) (cond (vs1==([105,115,111,45,56,56,53,57,45,49]:List UInt8)) (Bsays_2 F F b (b.length:Int) (0:Int) []) (some (.tup [.p (.str ([]:List UInt8)),.p (.bool false)],[]))):=by kernel_rfl
theorem Bsays_2_eq (F f1:Nat) (b:List UInt8) (vi3 vi4:Int) (vb5:List UInt8):Bsays_2 F (f1+1) b vi3 vi4 vb5=cond (decide (vi4 < vi3)) (need (0<=vi4/\vi4 < (b.length:Int)) (need (-1000000000000<=((b.getD (vi4).toNat 0).toNat:Int)/\((b.getD (vi4).toNat 0).toNat:Int)<=1000000000000) (need (vb5.length+(putS ((b.getD (vi4).toNat 0).toNat:Int)).length<=140737488355328) (need (i64ok (vi4+(1:Int))) (Bsays_2 F f1 b vi3 (vi4+(1:Int)) (vb5++(putS ((b.getD (vi4).toNat 0).toNat:Int)))))))) (some (.tup [.p (.str vb5),.p (.bool true)],[])):=by kernel_rfl
theorem Fsays_eq (F:Nat) (s b:List UInt8):Fsays F s b=need (s.length<=140737488355328) (cond ((foldS s)==([117,116,102,45,56]:List UInt8)) (Bsays_1 F b (foldS s) ((foldS s)==([117,116,102,45,56]:List UInt8))) (Bsays_1 F b (foldS s) ((foldS s)==([117,115,45,97,115,99,105,105]:List UInt8)))):=by kernel_rfl
theorem fn_says (F:Nat) (s b:List UInt8) (r:AV) (h:(∃ M vs,ARels γ0 M [.p (.str s),.p (.str b)] vs)->Fsays F s b=some (r,[])):FnP Tryz.prog 105 [.p (.str s),.p (.str b)] r:=
 FnP_run Gsays F rfl (EnvOk_mk (l:=[(61,sp_Fold),(62,sp_uvalid),(63,sp_Put)]) ⟨ok_Fold.any,ok_uvalid.any,ok_Put.any,trivial⟩) (EnvROk_mk (l:=[(48,sp_wstr),(51,sp_bstr)]) ⟨ok_wstr,ok_bstr,trivial⟩) (Checked.mixed Tryz.checked) (fn:=Tryz.f105) (by kernel_rfl) (by kernel_rfl) rfl h
abbrev cUtf8:List UInt8:=[117,116,102,45,56]
abbrev cAscii:List UInt8:=[117,115,45,97,115,99,105,105]
abbrev cIso:List UInt8:=[105,115,111,45,56,56,53,57,45,49]
def saysS (s b:List UInt8):List UInt8×Bool:=
 if foldS s=cUtf8\/foldS s=cAscii then (b,validS b) else if foldS s=cIso then (bytesS b,true) else ([],false)
def saysT (p:List UInt8×Bool):AV:=.tup [.p (.str p.1),.p (.bool p.2)]
theorem Bsays_spec (F:Nat) (s:List UInt8) (hs:s.length<=1000000):∀ (r:List UInt8) (f i:Nat) (acc:List UInt8),s.drop i=r->acc.length<=4 * i->r.length < f->i<=s.length->
 Bsays_2 F f s (s.length:Int) (i:Int) acc=some (saysT (acc++bytesS r,true),[]):=by
 intro r
 induction r with
 | nil=>
  intro f i acc hd ha hf hi
  have:i=s.length:=by have:=congrArg List.length hd; simp at this; omega
  cases f with
  | zero=>omega
  | succ f=>
   rw [Bsays_2_eq]
   refine cond_f (by first | omega | (unfold i64ok; omega) | (simp only [List.length_cons,List.length_nil]; omega) | (simp; omega) | simp) ?_
   simp [bytesS,saysT]
 | cons c r ih=>
  intro f i acc hd ha hf hi
  obtain ⟨h1,h2,h3⟩:=drop_cons hd
  cases f with
  | zero=>omega
  | succ f=>
   have hlt:=c.toNat_lt
   have hl:=putS_len (c.toNat:Int)
   rw [Bsays_2_eq]
   refine cond_t (by first | omega | (unfold i64ok; omega) | (simp only [List.length_cons,List.length_nil]; omega) | (simp; omega) | simp) ?_
   refine need_mk (by first | omega | (unfold i64ok; omega) | (simp only [List.length_cons,List.length_nil]; omega) | (simp; omega) | simp) ?_
   rw [Int.toNat_natCast,h1]
   refine need_mk (by first | omega | (unfold i64ok; omega) | (simp only [List.length_cons,List.length_nil]; omega) | (simp; omega) | simp) ?_
   refine need_mk (by omega) ?_
   refine need_mk (by first | omega | (unfold i64ok; omega) | (simp only [List.length_cons,List.length_nil]; omega) | (simp; omega) | simp) ?_
   have e:(i:Int)+1=((i+1:Nat):Int):=by omega
   rw [e,ih f (i+1) _ h2 (by simp; omega) (by simp at hf; omega) (by omega)]
   simp [bytesS]
theorem says_eq (s b:List UInt8) (h:s.length<=1000000/\b.length<=1000000):Fsays (b.length+1) s b=some (saysT (saysS s b),[]):=by
 rw [Fsays_eq,saysS]
 refine need_mk (by have:=h.1; omega) ?_
 generalize foldS s=q
 have hyes:q=cUtf8\/q=cAscii->Bsays_1 (b.length+1) b q true=some (saysT (if q=cUtf8\/q=cAscii then (b,validS b) else if q=cIso then (bytesS b,true) else ([],false)),[]):=fun hq=>by
  rw [Bsays_1_eq,if_pos hq]
  exact cond_t rfl (need_mk h.2 rfl)
 have hno:¬ (q=cUtf8\/q=cAscii)->Bsays_1 (b.length+1) b q false=some (saysT (if q=cUtf8\/q=cAscii then (b,validS b) else if q=cIso then (bytesS b,true) else ([],false)),[]):=fun hq=>by
  rw [Bsays_1_eq,if_neg hq]
  refine cond_f rfl ?_
  by_cases hi:q=cIso
  .refine cond_t (by rw [hi]; rfl) ?_
   rw [if_pos hi]
   exact Bsays_spec _ b h.2 b (b.length+1) 0 [] rfl (by simp) (by omega) (by omega)
  .refine cond_f (by simpa using hi) ?_
   rw [if_neg hi]; rfl
 by_cases h1:q=cUtf8
 .refine cond_t (by rw [h1]; rfl) ?_
  rw [show (q==([117,116,102,45,56]:List UInt8))=true by rw [h1]; rfl]
  exact hyes (.inl h1)
 .refine cond_f (by simpa using h1) ?_
  by_cases h2:q=cAscii
  .rw [show (q==([117,115,45,97,115,99,105,105]:List UInt8))=true by rw [h2]; rfl]
   exact hyes (.inr h2)
  .rw [show (q==([117,115,45,97,115,99,105,105]:List UInt8))=false by simpa using h2]
   exact hno (fun h=>h.elim h1 h2)
def sp_says:List AV->Option (AV×Option Prop)
 | [.p (.str s),.p (.str b)]=>some (.tup [.p (.str ((saysS s b).1)),.p (.bool ((saysS s b).2))],some (s.length<=1000000/\b.length<=1000000))
 | _=>none
theorem ok_says:SpecOk Tryz.prog 105 sp_says:=by
 intro zs r ok he hok
 unfold sp_says at he
 split at he
 .cases he; exact ⟨by kernel_rfl,fn_says (_) _ _ _ fun hx=>says_eq _ _ hok⟩
 .cases he
end Go.Proofs.YtoanepondbagcaaGreatDoor
namespace Go.Proofs.YtoanepondbagcaaGreatDoor
open Go Go.Am
set_option linter.unusedVariables false
theorem alpha_len:LB_7543b37f.length=64:=by decide
end Go.Proofs.YtoanepondbagcaaGreatDoor
namespace Go.Proofs.YtoanepondbagcaaGreatDoor
open Go Go.Am
set_option linter.unusedVariables false
end Go.Proofs.YtoanepondbagcaaGreatDoor
namespace Go.Proofs.YtoanepondbagcaaGreatDoor
open Go Go.Am
set_option linter.unusedVariables false
def Fixb (fuel:Nat) (s:List UInt8) (c:Int):Option Int:=some (ixS s c)
noncomputable def cixb:Code:=bodyOf Tryz.f87
def envixb:Env:=mkEnv [(124,sp_ixbl)]
theorem envixb_ok:EnvOk Tryz.prog envixb:=EnvOk_mk ⟨ok_ixbl.any,trivial⟩
theorem Tixb (fuel:Nat) (s:List UInt8) (c res:Int) (h:Fixb fuel s c=some res) (C:Ctx) (hC:CtxOk C 8 []):
 T Tryz.prog C (at_ cixb []) (mkS [(0,.p (.str s)),(1,.p (.int .u8 c))] []) (Qend Tryz.prog C Tryz.f87.results.toList (.p (.int .i64 res))):=by
 have henv:=envixb_ok
 unfold Fixb at h
 refine T_seqp (p:=[]) (by kernel_rfl) ?_
 refine T_reg henv hC [] [(0,.p (.str s)),(1,.p (.int .u8 c))] [] [] (by kernel_rfl) (by kernel_rfl) trivial (fun s1 hs1=>?_)
 refine (T.weaken ?_ hs1:T Tryz.prog C (at_ cixb [1]) _ _)
 refine T_seqp (p:=[1]) (by kernel_rfl) ?_
 refine T_reg henv hC [] [(4,.p (.int .i64 (ixS s c)))] [] [] (by kernel_rfl) (by kernel_rfl) trivial (fun s1 hs1=>?_)
 refine (T.weaken ?_ hs1:T Tryz.prog C (at_ cixb [1,1]) _ _)
 refine T_retp (p:=[1,1]) (by kernel_rfl) ?_
 have h:=Option.some.inj h; subst h
 exact ⟨mkS [(4,.p (.int .i64 (ixS s c)))] [],(Sub.refl _),by kernel_rfl⟩
theorem fn_ixb (fuel:Nat) (s:List UInt8) (c res:Int) (h:(∃ M vs,ARels γ0 M [.p (.str s),.p (.int .u8 c)] vs)->Fixb fuel s c=some res):FnP Tryz.prog 87 [.p (.str s),.p (.int .u8 c)] (.p (.int .i64 res)):=
 FnP_lift (fn:=Tryz.f87) (by kernel_rfl) (by kernel_rfl) fun M vs hvs C hC0=>have hC:CtxOk C 8 []:=⟨hC0.nt.trans (by kernel_rfl),hC0.fx⟩; T.weaken (Tixb fuel s c res (h ⟨M,vs,hvs⟩) C hC) (sinit_sub hC (by kernel_rfl) (by kernel_rfl))
def sp_ixb:List AV->Option (AV×Option Prop):=sp_extib
theorem ok_ixb:SpecOk Tryz.prog 87 sp_ixb:=by
 intro zs r ok h hok
 unfold sp_ixb sp_extib at h
 split at h
 .cases h; exact ⟨by kernel_rfl,fn_ixb 0 _ _ _ fun _=>rfl⟩
 .cases h
end Go.Proofs.YtoanepondbagcaaGreatDoor
