/-
  Lifted functions, and facts about them.
-/
import Derived.Test.YtoanepondbagcaaGreatDoorRows
import Derived.Test.YtoanepondbagcaaGreatDoorAmC
import Derived.Test.YtoanepondbagcaaGreatDoorC06
import Derived.Test.YtoanepondbagcaaGreatDoorC02
import Derived.Test.YtoanepondbagcaaGreatDoorC01
import Derived.Shelf.Strings.SlTrimAscii
import Derived.ShutString
namespace Go.Proofs.YtoanepondbagcaaGreatDoor
open Go Go.Am
set_option linter.unusedVariables false
end Go.Proofs.YtoanepondbagcaaGreatDoor
namespace Go.Proofs.YtoanepondbagcaaGreatDoor
open Go Go.RowKit
structure RpKeep (b:Nat) (w w':World):Prop where
 old:∀ c,c < w.heap.size->c≠b->w'.heap[c]?=w.heap[c]?
 size:w.heap.size<=w'.heap.size
 os:w'.os=w.os
 tape:w'.tape=w.tape
 output:w'.output=w.output
theorem RpKeep.setCell {b:Nat} {w w':World} (h:RpKeep b w w') (q:Nat) (v:Value):RpKeep b w (w'.setCell ⟨b,q,none⟩ v):=
 ⟨fun c hc hne=>(Below.heap_setCell w' ⟨b,q,none⟩ v c hne).trans (h.old c hc hne),by
  have:=((Below.refl 0 w').setCell (p:=⟨b,q,none⟩) (Nat.zero_le _) v).size
  exact Nat.le_trans h.size this,h.os,h.tape,h.output⟩
theorem RpKeep.drew {b:Nat} {w w':World} (h:RpKeep b w w'):RpKeep b w w'.drew:=⟨h.old,h.size,h.os,h.tape,h.output⟩
theorem RpKeep.below {b:Nat} {w w1 w':World} (h:RpKeep b w w1) (k:Below w1.heap.size w1 w'):RpKeep b w w':=
 ⟨fun c hc hne=>(k.block c (Nat.lt_of_lt_of_le hc h.size)).trans (h.old c hc hne),Nat.le_trans h.size k.size,k.os.trans h.os,k.tape.trans h.tape,k.output.trans h.output⟩
theorem RpSt.at {w w2:World} (h:RpSt w w2 2):RpAt w2 w.heap.size:=by
 obtain ⟨hB,hsz,arr,c0,c1,q1,q2,q3,q4,q5,q6,q7⟩:=h
 refine ⟨⟨arr,q1,q4,fun c=>?_⟩,?_,?_⟩
 .have hc:=c.toNat_lt
  have h:=q5 c.toNat hc
  by_cases hb:isBk c=true
  .rw [if_pos hb]
   have hc2:(c.toNat=9/\1<=2)\/(c.toNat=32/\2<=2):=by
    unfold isBk at hb
    rw [Bool.or_eq_true,beq_iff_eq,beq_iff_eq] at hb
    rcases hb with rfl | rfl
    .exact .inl ⟨rfl,by decide⟩
    .exact .inr ⟨rfl,by decide⟩
   rw [if_pos hc2] at h; exact h
  .rw [if_neg hb]
   have hc2:¬ ((c.toNat=9/\1<=2)\/(c.toNat=32/\2<=2)):=by
    rintro (⟨h1,_⟩ | ⟨h1,_⟩)
    .have:c=9:=UInt8.toNat_inj.1 h1
     subst this; exact hb rfl
    .have:c=32:=UInt8.toNat_inj.1 h1
     subst this; exact hb rfl
   rw [if_neg hc2] at h; exact h
 .rw [rp_row q3,q6 (by decide)]; rfl
 .rw [rp_row q3,q7 (by decide)]; rfl
theorem RpAt.other {w w':World} {S b:Nat} (h:RpAt w S) (h0:S≠b) (h1:S+1≠b) (hk:∀ c,c≠b->w'.heap[c]?=w.heap[c]?):RpAt w' S:=by
 obtain ⟨⟨arr,q1,q2,q3⟩,t0,t1⟩:=h
 have e:∀ q,w'.cell? ⟨S,q,none⟩=w.cell? ⟨S,q,none⟩:=fun q=>World.cell?_of_block (w:=w) (hk S h0)
 exact ⟨⟨arr,(hk _ h1).trans q1,q2,q3⟩,(e 0).trans t0,(e 1).trans t1⟩
set_option maxRecDepth 100000 in
set_option maxHeartbeats 8000000 in
theorem rp_replace (b R off cap:Nat) (hRb:R≠b) (x3:Value) (s:ByteArray) (hs:s.size<=1000000) (w:World) (h0:w.cell? ⟨b,0,none⟩=some (.int .u32 0)) (h1:w.cell? ⟨b,1,none⟩=some (.int .i32 0)) (h3:w.cell? ⟨b,3,none⟩=some x3)
 (h4:w.cell? ⟨b,4,none⟩=some (.slice (some ⟨R,off,none⟩) 4 cap)) (f0:w.frozen? ⟨b,0,none⟩=false) (f1:w.frozen? ⟨b,1,none⟩=false) (f3:w.frozen? ⟨b,3,none⟩=false) (f4:w.frozen? ⟨b,4,none⟩=false)
 (r0:w.cell? ⟨R,off,none⟩=some (.string ⟨#[32]⟩)) (r1:w.cell? ⟨R,off+1,none⟩=some (.string ⟨#[]⟩)) (r2:w.cell? ⟨R,off+2,none⟩=some (.string ⟨#[9]⟩)) (r3:w.cell? ⟨R,off+3,none⟩=some (.string ⟨#[]⟩)):
 Calls Tryz.prog 84 #[.pointer (some ⟨b,0,none⟩),.string s] w fun e w'=>e=.returned (.string ⟨(unbS s.data.toList).toArray⟩)/\RpKeep b w w':=by
 have hmeth:∀ (p:Option Addr) (W:World),(method 356 182 (.pointer p) "Replace").run Tryz.prog W=.ok (227,.pointer p) W:=fun p W=>by kernel_rfl
 have hmf:∀ (fn:Fn) (first cap:Array Value) (w:World),(Instr.makeFunc fn first cap).run Tryz.prog w=.ok (.func fn first cap) w:=fun _ _ _ _=>rfl
 have hb:b < w.heap.size:=World.block_lt_of_cell? w ⟨b,0,none⟩ h0
 have hdo:∃ Q:World->Prop,(∀ W,Q W->W.cell? ⟨b,3,none⟩=some (.iface 182 (.pointer (some ⟨w.heap.size+1,0,none⟩)))/\RpAt W w.heap.size/\RpKeep b w W)/\
  Calls Tryz.prog 121 #[.pointer (some ⟨b,0,none⟩),.func (.func 122) #[.pointer (some ⟨b,0,none⟩)] #[]] w fun e w'=>e=.returned (.tuple #[])/\Q w':=by
  refine ⟨fun W=>W.cell? ⟨b,3,none⟩=some (.iface 182 (.pointer (some ⟨w.heap.size+1,0,none⟩)))/\RpAt W w.heap.size/\RpKeep b w W,fun W h=>h,?_⟩
  refine (rp_do b R off cap hRb x3 w h0 h1 h3 h4 f0 f1 f3 f4 r0 r1 r2 r3).mono ?_
  rintro e w' ⟨rfl,W2,hst,rfl⟩
  have hsz:(w.setCell ⟨b,1,none⟩ (.int .i32 1)).heap.size=w.heap.size:=by
   obtain ⟨cur,ty,fr,hh⟩:∃ cur ty fr,w.heap[b]?=some (.cells cur ty fr):=by
    unfold World.cell? at h0
    dsimp only at h0
    cases hq:w.heap[b]? with
    | none=>rw [hq] at h0; cases h0
    | some o=>cases o <;> rw [hq] at h0 <;> first | exact ⟨_,_,_,rfl⟩ | cases h0
   rw [setCell_eq_setRow w b 1 cur ty fr _ hh]; simp [World.setRow]
  have hat:=hst.at
  rw [hsz] at hat
  have k0:RpKeep b w (w.setCell ⟨b,1,none⟩ (.int .i32 1)):=RpKeep.setCell ⟨fun _ _ _=>rfl,Nat.le_refl _,rfl,rfl,rfl⟩ 1 _
  have k2:=k0.below hst.1
  have hc3:(w.setCell ⟨b,1,none⟩ (.int .i32 1)).cell? ⟨b,3,none⟩=some x3:=(World.cell?_setCell_other _ ⟨b,1,none⟩ ⟨b,3,none⟩ _ (by simp)).trans h3
  have hc3':=below_some hst.1 hc3
  refine ⟨rfl,?_,?_,?_⟩
  .refine (World.cell?_setCell_other _ ⟨b,1,none⟩ ⟨b,3,none⟩ _ (by simp)).trans ((World.cell?_setCell_other _ ⟨b,0,none⟩ ⟨b,3,none⟩ _ (by simp)).trans ?_)
   rw [World.cell?_drew]
   refine (World.cell?_setCell_other _ ⟨b,4,none⟩ ⟨b,3,none⟩ _ (by simp)).trans ?_
   rw [World.cell?_setCell_same W2 _ _ hc3',rpI,hsz]
  .refine hat.other (b:=b) (by omega) (by omega) fun c hc=>?_
   rw [Below.heap_setCell _ _ _ _ hc,Below.heap_setCell _ _ _ _ hc]
   show ((W2.setCell ⟨b,3,none⟩ _).setCell ⟨b,4,none⟩ _).heap[c]?=_
   rw [Below.heap_setCell _ _ _ _ hc,Below.heap_setCell _ _ _ _ hc]
  .exact ((((k2.setCell 3 _).setCell 4 _).drew.setCell 0 _).setCell 1 _)
 obtain ⟨Q,hQ,hdo⟩:=hdo
 go_enter Tryz.func84,Tryz.ntmps84
 go_wp2_with (first
  | (go_at_call 121; refine hdo.mono ?_; rintro e W ⟨rfl,hW⟩; obtain ⟨c3,hat,hkeep⟩:=hQ W hW)
  | (go_at_call 227; refine (rp_run w.heap.size s hs W hat).mono ?_; rintro e W' ⟨rfl,hB⟩))
 go_ret
 exact ⟨rfl,hkeep.below hB⟩
end Go.Proofs.YtoanepondbagcaaGreatDoor
namespace Go.Proofs.YtoanepondbagcaaGreatDoor
open Go Go.Am
set_option linter.unusedVariables false
end Go.Proofs.YtoanepondbagcaaGreatDoor
namespace Go.Proofs.YtoanepondbagcaaGreatDoor
open Go Go.Am
abbrev oldnew:List (List UInt8):=[[32],[],[9],[]]
theorem rp_arr {M:Mem} {w:World} {g cap:Nat} {vs:List Value} (hA:ArrOK M w 9 false 1 4 vs (some g) cap) (hR:∀ i j,i < (Rows.dat .str oldnew).n->j < 1->∃ v,vs[i * 1+j]?=some v/\PRel M ((Rows.dat .str oldnew).f i j) v):
 w.cell? ⟨g,0,none⟩=some (.string ⟨#[32]⟩)/\w.cell? ⟨g,0+1,none⟩=some (.string ⟨#[]⟩)/\w.cell? ⟨g,0+2,none⟩=some (.string ⟨#[9]⟩)/\w.cell? ⟨g,0+3,none⟩=some (.string ⟨#[]⟩):=by
 have key:∀ (i:Nat) (l:List UInt8),i < 4->(Rows.dat .str oldnew).f i 0=.str l->w.cell? ⟨g,0+i,none⟩=some (.string ⟨l.toArray⟩):=fun i l hi hl=>by
  obtain ⟨v,hv,hr⟩:=hR i 0 hi (by decide)
  rw [hl] at hr
  have e0:i * 1+0=i:=by omega
  rw [e0] at hv
  rw [Nat.zero_add,hA.cell i v hv]
  cases hr; rfl
 exact ⟨key 0 [32] (by decide) rfl,key 1 [] (by decide) rfl,key 2 [9] (by decide) rfl,key 3 [] (by decide) rfl⟩
theorem FnR_repl (t:List UInt8) (ht:t.length<=1000000):
 FnR Tryz.prog 84 [.ref 70000 0,.p (.str t)] [(70000,.cells [.p (.int .u32 0),.p (.int .i32 0),.p (.int .u32 0),.p (.plain .nilIface),.arr 70001]),(70001,.larr 9 false 1 (.dat .str oldnew))] [] (.p (.str (unbS t))) []:=by
 intro γ M w vs hO hnone hM hvs
 obtain ⟨b,vs0,e,hg,hh,hsz,hrel,hmem⟩:=hO.ob 70000 _ rfl
 obtain ⟨a,cap,vs1,hg1,hR,hA⟩:=hO.ob 70001 _ rfl
 cases hvs with | cons hx hvs=>
 cases hvs with | cons hy hvs=>
 cases hvs
 obtain ⟨b',hg',rfl⟩:=hx.ref_inv
 rw [hg] at hg'; cases hg'
 cases hy with | p _ _ hy=>
 cases hy with | str _ hlen=>
 have hc:∀ j,j < 5->w.cell? ⟨b,j,none⟩=some (vs0.getD j undef):=fun j hj=>by
  rw [rp_row hh j,Array.getD_eq_getD_getElem?,Array.getElem?_eq_getElem (by rw [hsz]; exact hj)]; rfl
 have e0:vs0.getD 0 undef=.int .u32 0:=by
  have h:=(hrel 0 (by decide)).1
  generalize vs0.getD 0 undef=v at h
  cases h with | p _ _ h=>cases h; rfl
 have e1:vs0.getD 1 undef=.int .i32 0:=by
  have h:=(hrel 1 (by decide)).1
  generalize vs0.getD 1 undef=v at h
  cases h with | p _ _ h=>cases h; rfl
 have h4:ARel γ M (.arr 70001) (vs0.getD 4 undef):=(hrel 4 (by decide)).1
 obtain ⟨a',k',n',cap',hg1',e4⟩:=h4.arr_inv
 rw [hg1] at hg1'; cases hg1'
 cases a with
 | none=>exact absurd hA.none.1 (by decide)
 | some g=>
  have e4:vs0.getD 4 undef=.slice (some ⟨g,0,none⟩) 4 cap:=e4
  have hRb:g≠b:=fun e=>by
   subst e
   have:=hO.sep 70000 70001 _ _ g (by simp [lookO]) (by simp [lookO]) hg hg1 rfl rfl
   cases this
  obtain ⟨r0,r1,r2,r3⟩:=rp_arr hA hR
  have hlen2:t.toArray.size=t.length:=by simp
  have hcon:=rp_replace b g 0 cap hRb (vs0.getD 3 undef) ⟨t.toArray⟩ (by show t.toArray.size<=_; rw [hlen2]; exact ht) w (by rw [hc 0 (by decide),e0]) (by rw [hc 1 (by decide),e1]) (hc 3 (by decide)) (by rw [hc 4 (by decide),e4])
   (rp_thaw hh 0) (rp_thaw hh 1) (rp_thaw hh 3) (rp_thaw hh 4) r0 r1 r2 r3
  refine Calls.mono hcon fun e' w' ⟨he,hk⟩=>?_
  have hst:(⟨t.toArray⟩:ByteArray).data.toList=t:=rfl
  rw [hst] at he
  rw [he]
  have hbl:=bk_len t
  refine FnR_str_of hM (by unfold maxLen; omega) (fun c hc hno=>hk.old c hc fun e=>hno (by subst e; exact ⟨70000,_,by simp [lookO],hg,rfl⟩)) (fun c o v hv=>?_) hk.size hk.os hk.tape hk.output
  have hcb:c≠b:=fun e=>by subst e; rw [hmem] at hv; cases hv
  have hlt:c < w.heap.size:=World.block_lt_of_cell? w ⟨c,o,none⟩ (hM c o v hv)
  exact World.cell?_of_block (w:=w) (hk.old c hlt hcb)
def sp_repl:RSpec:=⟨[false,true],fun args ib=>match args,ib with
 | [.ref 70000 0,.p (.str t)],[(70000,.cells [.p (.int .u32 0),.p (.int .i32 0),.p (.int .u32 0),.p (.plain .nilIface),.arr 70001]),(70001,.larr 9 false 1 R)]=>
  match pList .str (.list 1 R) with
  | some [[32],[],[9],[]]=>some (([],.p (.str (unbS t))),([],some (t.length<=1000000)))
  | _=>none
 | _,_=>none⟩
end Go.Proofs.YtoanepondbagcaaGreatDoor
namespace Go.Proofs.YtoanepondbagcaaGreatDoor
open Go Go.Am
set_option linter.unusedVariables false
theorem pList_rowA {a:Ec} {k:Nat} {R:Go.Am.Rows} {l:List (Elt a)} (h:pList a (.list k R)=some l):R=.dat a l/\k=wid a:=by
 cases R with
 | fn n f=>cases h
 | dat a' l'=>
  simp only [pList] at h
  split at h
  .rename_i he hk heq
   subst he; cases h
   exact ⟨rfl,Nat.eq_of_beq_eq_true hk⟩
  .cases h
abbrev AddrT:=List UInt8×List UInt8×List UInt8
abbrev addrC:Ec:=.pair .str (.pair .str .str)
abbrev rdN (W O:Nat) (s:List UInt8) (at_:Int) (ws:List (List UInt8)) (an:List UInt8) (hs:Bool) (out:List AddrT):List (Nat×AObj):=
 [(70000,.cells [.p (.str s),.p (.int .i64 at_),.arr W,.p (.str an),.p (.bool hs),.arr O]),(W,.larr 9 false 1 (.dat .str ws)),(O,.larr 70 false 3 (.dat addrC out))]
abbrev rdO:=rdN 70001 70002
abbrev rdok (s:List UInt8) (at_:Int):Prop:=s.length<=1000000/\0<=at_/\at_<=s.length
def wiF:List UInt8->List UInt8×Nat
 | []=>([],0)
 | [c]=>if c=34 then ([],1) else ([c],1)
 | c::d::r=>if c=34 then ([],1) else if c=92 then (d::(wiF r).1,(wiF r).2+2) else (c::(wiF (d::r)).1,(wiF (d::r)).2+1)
def rmF:Nat->List UInt8->Nat
 | 0,_=>0
 | _+1,[]=>0
 | _+1,[_]=>1
 | k+1,c::d::r=>if c=40 then rmF (k+2) (d::r)+1 else if c=41 then rmF k (d::r)+1 else if c=92 then rmF (k+1) r+2 else rmF (k+1) (d::r)+1
theorem adr_drop {s:List UInt8} {i:Nat} {c:UInt8} {r:List UInt8} (h:s.drop i=c::r):s.getD i 0=c/\s.drop (i+1)=r/\i < s.length:=by
 refine ⟨?_,by rw [<-List.tail_drop,h]; rfl,?_⟩
 .rw [List.getD_eq_getElem?_getD,<-List.head?_drop,h]; rfl
 .rcases Nat.lt_or_ge i s.length with h1 | h1
  .exact h1
  .rw [List.drop_eq_nil_of_le h1] at h; cases h
theorem adr_u8 (c:UInt8) (k:Nat) (q:Int) (d:UInt8) (hq:q=k) (hd:d.toNat=k):(((c.toNat:Nat):Int)==q)=decide (c=d):=by
 rw [Bool.eq_iff_iff,beq_iff_eq,decide_eq_true_iff,hq]
 constructor
 .intro h
  apply UInt8.toNat_inj.1
  omega
 .rintro rfl
  omega
theorem ofNat_toNat8 (c:UInt8):UInt8.ofNat (((c.toNat:Nat):Int)).toNat=c:=by
 rw [Int.toNat_natCast]; exact UInt8.ofNat_toNat
noncomputable def cwithin_:Code:=bodyOf Tryz.f81
noncomputable def Gwithin_:Cfg:=⟨Tryz.prog,mkEnv [],mkEnvR [],79,[70000,70001,70002],[([0,0,1,1],⟨[0,1,5],[⟨.slot 5,5,(.barr 5 false [])⟩,⟨.fix 70000,70000,.cells []⟩,⟨.fix 70001,70001,.cells []⟩,⟨.fix 70002,70002,.cells []⟩]⟩),([1,1,1,0,1,1,0,1,0,0,0,1,1],⟨[0,1,5,6,43],[⟨.slot 5,5,(.barr 5 false [])⟩,⟨.fix 70000,70000,.cells []⟩,⟨.fix 70001,70001,.cells []⟩,⟨.fix 70002,70002,.cells []⟩]⟩)],[]⟩
noncomputable def Bwithin__1 (F f1:Nat) (vb1 vs2:List UInt8) (vi3:Int) (vs4:List UInt8) (vc5:Bool) (vl6:List (List UInt8)) (vl7:List (List UInt8×List UInt8×List UInt8)):Option Ans:=runR Gwithin_ cwithin_ (kR Tryz.prog [70000,70001,70002] ⟨[4],[⟨.fix 70000,70000,.cells []⟩,⟨.fix 70001,70001,.cells []⟩,⟨.fix 70002,70002,.cells []⟩]⟩ [70000,70001,70002] Tryz.f81.results.toList) F [] [1,1,0,0] f1 [(0,.ref 70000 0),(1,.p (.int .u8 (34:Int))),(5,.arr 5)] [(5,.barr 5 false vb1),(70000,.cells [.p (.str vs2),.p (.int .i64 vi3),.arr 70001,.p (.str vs4),.p (.bool vc5),.arr 70002]),(70001,.larr 9 false 1 (.dat .str vl6)),(70002,.larr 70 false 3 (.dat (.pair .str (.pair .str .str)) vl7))]
noncomputable def Bwithin__2 (F f1:Nat) (vi8:Int) (vc9:Bool) (vb1 vs2:List UInt8) (vi10:Int) (vs4:List UInt8) (vc5:Bool) (vl6:List (List UInt8)) (vl7:List (List UInt8×List UInt8×List UInt8)):Option Ans:=runB Gwithin_ cwithin_ (kR Tryz.prog [70000,70001,70002] ⟨[4],[⟨.fix 70000,70000,.cells []⟩,⟨.fix 70001,70001,.cells []⟩,⟨.fix 70002,70002,.cells []⟩]⟩ [70000,70001,70002] Tryz.f81.results.toList) F [f1] [1,1,0,0,0,1,0,1,1,0,1,1,1] [(0,.ref 70000 0),(1,.p (.int .u8 (34:Int))),(5,.arr 5),(6,.p (.int .u8 vi8)),(43,.p (.bool vc9))] [(5,.barr 5 false vb1),(70000,.cells [.p (.str vs2),.p (.int .i64 vi10),.arr 70001,.p (.str vs4),.p (.bool vc5),.arr 70002]),(70001,.larr 9 false 1 (.dat .str vl6)),(70002,.larr 70 false 3 (.dat (.pair .str (.pair .str .str)) vl7))]
noncomputable def Fwithin_ (F:Nat) (s:List UInt8) (at_:Int) (ws:List (List UInt8)) (an:List UInt8) (hs:Bool) (out:List (List UInt8×List UInt8×List UInt8)):Option Ans:=runFR Gwithin_ Tryz.f81 ⟨[4],[⟨.fix 70000,70000,.cells []⟩,⟨.fix 70001,70001,.cells []⟩,⟨.fix 70002,70002,.cells []⟩]⟩ [70000,70001,70002] F [.ref 70000 0,.p (.int .u8 (34:Int))] [(70000,.cells [.p (.str s),.p (.int .i64 at_),.arr 70001,.p (.str an),.p (.bool hs),.arr 70002]),(70001,.larr 9 false 1 (.dat .str ws)),(70002,.larr 70 false 3 (.dat (.pair .str (.pair .str .str)) out))]
theorem Bwithin__1_eq (F f1:Nat) (vb1 vs2:List UInt8) (vi3:Int) (vs4:List UInt8) (vc5:Bool) (vl6:List (List UInt8)) (vl7:List (List UInt8×List UInt8×List UInt8)):Bwithin__1 F (f1+1) vb1 vs2 vi3 vs4 vc5 vl6 vl7=cond (decide (vi3 < (vs2.length:Int))) (need (0<=vi3/\vi3 < (vs2.length:Int)) (need (i64ok (vi3+(1:Int))) (cond (((vs2.getD (vi3).toNat 0).toNat:Int)==(34:Int)) (some (.p (.str vb1),[(70000,.cells [.p (.str vs2),.p (.int .i64 (vi3+(1:Int))),.arr 70001,.p (.str vs4),.p (.bool vc5),.arr 70002]),(70001,.larr 9 false 1 (.dat .str vl6)),(70002,.larr 70 false 3 (.dat (.pair .str (.pair .str .str)) vl7))])) (Bwithin__2 F f1 ((vs2.getD (vi3).toNat 0).toNat:Int) ((((vs2.getD (vi3).toNat 0).toNat:Int)==(92:Int))&&(decide ((vi3+(1:Int)) < (vs2.length:Int)))) vb1 vs2 (vi3+(1:Int)) vs4 vc5 vl6 vl7)))) (some (.p (.str vb1),[(70000,.cells [.p (.str vs2),.p (.int .i64 vi3),.arr 70001,.p (.str vs4),.p (.bool vc5),.arr 70002]),(70001,.larr 9 false 1 (.dat .str vl6)),(70002,.larr 70 false 3 (.dat (.pair .str (.pair .str .str)) vl7))])):=
 Eq.trans (show Bwithin__1 F (f1+1) vb1 vs2 vi3 vs4 vc5 vl6 vl7=cond (decide (vi3 < (vs2.length:Int))) (need (0<=vi3/\vi3 < (vs2.length:Int)) (need (i64ok (vi3+(1:Int))) (cond (((vs2.getD (vi3).toNat 0).toNat:Int)==(34:Int)) (some (.p (.str vb1),[(70000,.cells [.p (.str vs2),.p (.int .i64 (vi3+(1:Int))),.arr 70001,.p (.str vs4),.p (.bool vc5),.arr 70002]),(70001,.larr 9 false 1 (.dat .str vl6)),(70002,.larr 70 false 3 (.dat (.pair .str (.pair .str .str)) vl7))])) (need ((((vs2.getD (vi3).toNat 0).toNat:Int)==(92:Int))=true->(((vs2.getD (vi3).toNat 0).toNat:Int)==(92:Int))=true) (need ((((vs2.getD (vi3).toNat 0).toNat:Int)==(92:Int))=true->(((vs2.getD (vi3).toNat 0).toNat:Int)==(92:Int))=true) (need ((((vs2.getD (vi3).toNat 0).toNat:Int)==(92:Int))=true->(((vs2.getD (vi3).toNat 0).toNat:Int)==(92:Int))=true) (need ((((vs2.getD (vi3).toNat 0).toNat:Int)==(92:Int))=true->(((vs2.getD (vi3).toNat 0).toNat:Int)==(92:Int))=true) (need ((((vs2.getD (vi3).toNat 0).toNat:Int)==(92:Int))=true->(((vs2.getD (vi3).toNat 0).toNat:Int)==(92:Int))=true) (need ((((vs2.getD (vi3).toNat 0).toNat:Int)==(92:Int))=true->(((vs2.getD (vi3).toNat 0).toNat:Int)==(92:Int))=true) (need ((((vs2.getD (vi3).toNat 0).toNat:Int)==(92:Int))=true->(((vs2.getD (vi3).toNat 0).toNat:Int)==(92:Int))=true) (need ((((vs2.getD (vi3).toNat 0).toNat:Int)==(92:Int))=true->(((vs2.getD (vi3).toNat 0).toNat:Int)==(92:Int))=true) (need ((((vs2.getD (vi3).toNat 0).toNat:Int)==(92:Int))=true->(((vs2.getD (vi3).toNat 0).toNat:Int)==(92:Int))=true) (need ((((vs2.getD (vi3).toNat 0).toNat:Int)==(92:Int))=true->(((vs2.getD (vi3).toNat 0).toNat:Int)==(92:Int))=true) (Bwithin__2 F f1 ((vs2.getD (vi3).toNat 0).toNat:Int) ((((vs2.getD (vi3).toNat 0).toNat:Int)==(92:Int))&&(decide ((vi3+(1:Int)) < (vs2.length:Int)))) vb1 vs2 (vi3+(1:Int)) vs4 vc5 vl6 vl7)))))))))))))) (some (.p (.str vb1),[(70000,.cells [.p (.str vs2),.p (.int .i64 vi3),.arr 70001,.p (.str vs4),.p (.bool vc5),.arr 70002]),(70001,.larr 9 false 1 (.dat .str vl6)),(70002,.larr 70 false 3 (.dat (.pair .str (.pair .str .str)) vl7))])) by kernel_rfl) (cond_congr (need_congr (need_congr (cond_congr (rfl) (need_strike (show (((vs2.getD (vi3).toNat 0).toNat:Int)==(92:Int))=true->(((vs2.getD (vi3).toNat 0).toNat:Int)==(92:Int))=true from (fun q0=>q0)) (need_strike (show (((vs2.getD (vi3).toNat 0).toNat:Int)==(92:Int))=true->(((vs2.getD (vi3).toNat 0).toNat:Int)==(92:Int))=true from (fun q0=>q0)) (need_strike (show (((vs2.getD (vi3).toNat 0).toNat:Int)==(92:Int))=true->(((vs2.getD (vi3).toNat 0).toNat:Int)==(92:Int))=true from (fun q0=>q0)) (need_strike (show (((vs2.getD (vi3).toNat 0).toNat:Int)==(92:Int))=true->(((vs2.getD (vi3).toNat 0).toNat:Int)==(92:Int))=true from (fun q0=>q0)) (need_strike (show (((vs2.getD (vi3).toNat 0).toNat:Int)==(92:Int))=true->(((vs2.getD (vi3).toNat 0).toNat:Int)==(92:Int))=true from (fun q0=>q0)) (need_strike (show (((vs2.getD (vi3).toNat 0).toNat:Int)==(92:Int))=true->(((vs2.getD (vi3).toNat 0).toNat:Int)==(92:Int))=true from (fun q0=>q0)) (need_strike (show (((vs2.getD (vi3).toNat 0).toNat:Int)==(92:Int))=true->(((vs2.getD (vi3).toNat 0).toNat:Int)==(92:Int))=true from (fun q0=>q0)) (need_strike (show (((vs2.getD (vi3).toNat 0).toNat:Int)==(92:Int))=true->(((vs2.getD (vi3).toNat 0).toNat:Int)==(92:Int))=true from (fun q0=>q0)) (need_strike (show (((vs2.getD (vi3).toNat 0).toNat:Int)==(92:Int))=true->(((vs2.getD (vi3).toNat 0).toNat:Int)==(92:Int))=true from (fun q0=>q0)) (need_strike (show (((vs2.getD (vi3).toNat 0).toNat:Int)==(92:Int))=true->(((vs2.getD (vi3).toNat 0).toNat:Int)==(92:Int))=true from (fun q0=>q0)) (rfl)))))))))))))) (rfl))
theorem Bwithin__2_eq (F f1:Nat) (vi8:Int) (vc9:Bool) (vb1 vs2:List UInt8) (vi10:Int) (vs4:List UInt8) (vc5:Bool) (vl6:List (List UInt8)) (vl7:List (List UInt8×List UInt8×List UInt8)):Bwithin__2 F f1 vi8 vc9 vb1 vs2 vi10 vs4 vc5 vl6 vl7=cond (vc9) (need (0<=vi10/\vi10 < (vs2.length:Int)) (need ((vb1.length+[UInt8.ofNat (((vs2.getD (vi10).toNat 0).toNat:Int)).toNat].length) * 1<=140737488355328) (need (i64ok (vi10+(1:Int))) (Bwithin__1 F f1 (vb1++[UInt8.ofNat (((vs2.getD (vi10).toNat 0).toNat:Int)).toNat]) vs2 (vi10+(1:Int)) vs4 vc5 vl6 vl7)))) (need ((vb1.length+[UInt8.ofNat (vi8).toNat].length) * 1<=140737488355328) (Bwithin__1 F f1 (vb1++[UInt8.ofNat (vi8).toNat]) vs2 vi10 vs4 vc5 vl6 vl7)):=by kernel_rfl
theorem Fwithin__eq (F:Nat) (s:List UInt8) (at_:Int) (ws:List (List UInt8)) (an:List UInt8) (hs:Bool) (out:List (List UInt8×List UInt8×List UInt8)):Fwithin_ F s at_ ws an hs out=Bwithin__1 F F [] s at_ an hs ws out:=by kernel_rfl
theorem fn_within_ (F:Nat) (s:List UInt8) (at_:Int) (ws:List (List UInt8)) (an:List UInt8) (hs:Bool) (out:List (List UInt8×List UInt8×List UInt8)) (r:AV) (os:List (Nat×AObj)) (h:(∃ γ M w vs,ARels γ M [.ref 70000 0,.p (.int .u8 (34:Int))] vs/\Objs γ M w (fun i=>lookO i [(70000,.cells [.p (.str s),.p (.int .i64 at_),.arr 70001,.p (.str an),.p (.bool hs),.arr 70002]),(70001,.larr 9 false 1 (.dat .str ws)),(70002,.larr 70 false 3 (.dat (.pair .str (.pair .str .str)) out))]) (fun b=>b < w.heap.size))->Fwithin_ F s at_ ws an hs out=some (r,os)):FnR Tryz.prog 81 [.ref 70000 0,.p (.int .u8 (34:Int))] [(70000,.cells [.p (.str s),.p (.int .i64 at_),.arr 70001,.p (.str an),.p (.bool hs),.arr 70002]),(70001,.larr 9 false 1 (.dat .str ws)),(70002,.larr 70 false 3 (.dat (.pair .str (.pair .str .str)) out))] [70000,70001,70002] r os:=
 FnR_run Gwithin_ ⟨[4],[⟨.fix 70000,70000,.cells []⟩,⟨.fix 70001,70001,.cells []⟩,⟨.fix 70002,70002,.cells []⟩]⟩ [70000,70001,70002] F rfl (EnvOk_mk (l:=[]) trivial) (EnvROk_mk (l:=[]) trivial) (Checked.mixed Tryz.checked) (fn:=Tryz.f81) (by kernel_rfl) (by kernel_rfl) rfl h
theorem wi_loop (F:Nat) (s an:List UInt8) (hs:Bool) (ws:List (List UInt8)) (out:List AddrT) (hS:s.length<=1000000):∀ (n:Nat) (r b:List UInt8) (i f:Nat),r.length<=n->s.drop i=r->i+r.length=s.length->b.length+r.length<=1000000->r.length < f->
 Bwithin__1 F f b s (i:Int) an hs ws out=some (.p (.str (b++(wiF r).1)),rdO s ((i:Int)+((wiF r).2:Int)) ws an hs out):=by
 intro n
 induction n with
 | zero=>
  intro r b i f hn hd hl hb hf
  obtain rfl:r=[]:=List.eq_nil_of_length_eq_zero (by omega)
  obtain ⟨f,rfl⟩:∃ k,f=k+1:=⟨f - 1,by omega⟩
  rw [Bwithin__1_eq]
  refine cond_f (by simp at hl; simp; omega) ?_
  simp [wiF,rdO]
 | succ n ih=>
  intro r b i f hn hd hl hb hf
  obtain ⟨f,rfl⟩:∃ k,f=k+1:=⟨f - 1,by omega⟩
  cases r with
  | nil=>
   rw [Bwithin__1_eq]
   refine cond_f (by simp at hl; simp; omega) ?_
   simp [wiF,rdO]
  | cons c r=>
   obtain ⟨hg,hd2,hi⟩:=adr_drop hd
   rw [List.length_cons] at hn hl hb hf
   rw [Bwithin__1_eq]
   refine cond_t (decide_eq_true (by omega)) (need_mk ⟨by omega,by omega⟩ (need_mk ⟨by omega,by omega⟩ ?_))
   rw [Int.toNat_natCast,hg,adr_u8 c 34 34 34 rfl rfl]
   have e1:((i:Int)+1)=((i+1:Nat):Int):=by omega
   by_cases h34:c=34
   .subst h34
    refine cond_t (by decide) ?_
    cases r <;> simp [wiF,rdO]
   .refine cond_f (by simpa using h34) ?_
    rw [Bwithin__2_eq,adr_u8 c 92 92 92 rfl rfl,e1]
    simp only [ofNat_toNat8]
    cases r with
    | nil=>
     refine cond_f (by simp at hl; simp; omega) (need_mk (by simp; omega) ?_)
     rw [ih [] (b++[c]) (i+1) f (by simp) hd2 (by simpa using hl) (by simp; simp at hb; omega) (by simpa using hf)]
     simp [wiF,h34]
    | cons d r=>
     obtain ⟨hg2,hd3,hi2⟩:=adr_drop hd2
     rw [List.length_cons] at hn hl hb hf
     by_cases h92:c=92
     .subst h92
      refine cond_t (by simp; omega) (need_mk ⟨by omega,by omega⟩ (need_mk (by simp; omega) (need_mk ⟨by omega,by omega⟩ ?_)))
      have e2:(((i+1:Nat):Int)+1)=((i+2:Nat):Int):=by omega
      rw [Int.toNat_natCast,hg2,e2,ih r (b++[d]) (i+2) f (by omega) hd3 (by omega) (by simp; omega) (by omega)]
      have e3:wiF (92::d::r)=(d::(wiF r).1,(wiF r).2+2):=by rw [wiF,if_neg (by decide),if_pos rfl]
      rw [e3]
      simp [List.append_assoc,rdO]; omega
     .refine cond_f (by simp [h92]) (need_mk (by simp; omega) ?_)
      rw [ih (d::r) (b++[c]) (i+1) f (by simp; omega) hd2 (by simp; omega) (by simp; omega) (by simp; omega)]
      have e3:wiF (c::d::r)=(c::(wiF (d::r)).1,(wiF (d::r)).2+1):=by rw [wiF,if_neg h34,if_neg h92]
      rw [e3]
      simp [List.append_assoc,rdO]; omega
theorem within_eq (s:List UInt8) (at_:Int) (ws:List (List UInt8)) (an:List UInt8) (hs:Bool) (out:List AddrT) (h:rdok s at_):
 Fwithin_ (s.length+1) s at_ ws an hs out=some (.p (.str (wiF (s.drop at_.toNat)).1),rdO s (at_+((wiF (s.drop at_.toNat)).2:Int)) ws an hs out):=by
 obtain ⟨h1,h2,h3⟩:=h
 rw [Fwithin__eq]
 obtain ⟨i,rfl⟩:∃ i:Nat,at_=i:=⟨at_.toNat,by omega⟩
 have:=wi_loop (s.length+1) s an hs ws out h1 (s.drop i).length (s.drop i) [] i (s.length+1) (Nat.le_refl _) rfl (by simp; omega) (by simp; omega) (by simp; omega)
 rw [this]
 simp
def sp_within_:RSpec:=⟨[false,true],fun args ib=>match args,ib with
 | [.ref 70000 0,.p (.int .u8 34)],[(70000,.cells [.p (.str s),.p (.int .i64 at_),.arr 70001,.p (.str an),.p (.bool hs),.arr 70002]),(70001,.larr 9 false 1 R),(70002,.larr 70 false 3 Q)]=>
  match pList .str (.list 1 R),pList addrC (.list 3 Q) with
  | some ws,some out=>some (([70000,70001,70002],.p (.str (wiF (s.drop at_.toNat)).1)),(rdO s (at_+((wiF (s.drop at_.toNat)).2:Int)) ws an hs out,some (rdok s at_)))
  | _,_=>none
 | _,_=>none⟩
theorem ok_within_:SpecROk Tryz.prog 81 sp_within_:=by
 intro args ib kept r outs ok h hok
 simp only [sp_within_] at h
 split at h
 .split at h
  .rename_i ws out hw ho
   obtain ⟨rfl,_⟩:=pList_rowA hw
   obtain ⟨rfl,_⟩:=pList_rowA ho
   cases h
   exact ⟨by kernel_rfl,fn_within_ _ _ _ _ _ _ _ _ _ fun _=>within_eq _ _ _ _ _ _ hok⟩
  .cases h
 .cases h
noncomputable def cremark:Code:=bodyOf Tryz.f82
noncomputable def Gremark:Cfg:=⟨Tryz.prog,mkEnv [],mkEnvR [],63,[70000,70001,70002],[([0,1,0],⟨[0,2],[⟨.fix 70000,70000,.cells []⟩,⟨.fix 70001,70001,.cells []⟩,⟨.fix 70002,70002,.cells []⟩]⟩),([1,1,0,0,1,0],⟨[0,2],[⟨.fix 70000,70000,.cells []⟩,⟨.fix 70001,70001,.cells []⟩,⟨.fix 70002,70002,.cells []⟩]⟩)],[]⟩
noncomputable def Bremark_1 (F f1:Nat) (vi1:Int) (vs2:List UInt8) (vi3:Int) (vs4:List UInt8) (vc5:Bool) (vl6:List (List UInt8)) (vl7:List (List UInt8×List UInt8×List UInt8)):Option Ans:=runR Gremark cremark (kR Tryz.prog [70000,70001,70002] ⟨[],[⟨.fix 70000,70000,.cells []⟩,⟨.fix 70001,70001,.cells []⟩,⟨.fix 70002,70002,.cells []⟩]⟩ [70000,70001,70002] Tryz.f82.results.toList) F [] [0,1,0] f1 [(0,.ref 70000 0),(2,.p (.int .i64 vi1))] [(70000,.cells [.p (.str vs2),.p (.int .i64 vi3),.arr 70001,.p (.str vs4),.p (.bool vc5),.arr 70002]),(70001,.larr 9 false 1 (.dat .str vl6)),(70002,.larr 70 false 3 (.dat (.pair .str (.pair .str .str)) vl7))]
noncomputable def Bremark_2 (F f1:Nat) (vi8:Int) (vs9:List UInt8) (vi10:Int) (vs11:List UInt8) (vc12:Bool) (vl13:List (List UInt8)) (vl14:List (List UInt8×List UInt8×List UInt8)):Option Ans:=runB Gremark cremark (kR Tryz.prog [70000,70001,70002] ⟨[],[⟨.fix 70000,70000,.cells []⟩,⟨.fix 70001,70001,.cells []⟩,⟨.fix 70002,70002,.cells []⟩]⟩ [70000,70001,70002] Tryz.f82.results.toList) F [f1] [0,1,0,0,1,1] [(0,.ref 70000 0),(2,.p (.int .i64 vi8))] [(70000,.cells [.p (.str vs9),.p (.int .i64 vi10),.arr 70001,.p (.str vs11),.p (.bool vc12),.arr 70002]),(70001,.larr 9 false 1 (.dat .str vl13)),(70002,.larr 70 false 3 (.dat (.pair .str (.pair .str .str)) vl14))]
noncomputable def Fremark (F:Nat) (s:List UInt8) (at_:Int) (ws:List (List UInt8)) (an:List UInt8) (hs:Bool) (out:List (List UInt8×List UInt8×List UInt8)):Option Ans:=runFR Gremark Tryz.f82 ⟨[],[⟨.fix 70000,70000,.cells []⟩,⟨.fix 70001,70001,.cells []⟩,⟨.fix 70002,70002,.cells []⟩]⟩ [70000,70001,70002] F [.ref 70000 0] [(70000,.cells [.p (.str s),.p (.int .i64 at_),.arr 70001,.p (.str an),.p (.bool hs),.arr 70002]),(70001,.larr 9 false 1 (.dat .str ws)),(70002,.larr 70 false 3 (.dat (.pair .str (.pair .str .str)) out))]
theorem Bremark_1_eq (F f1:Nat) (vi1:Int) (vs2:List UInt8) (vi3:Int) (vs4:List UInt8) (vc5:Bool) (vl6:List (List UInt8)) (vl7:List (List UInt8×List UInt8×List UInt8)):Bremark_1 F (f1+1) vi1 vs2 vi3 vs4 vc5 vl6 vl7=cond ((decide (vi1 > (0:Int)))&&(decide (vi3 < (vs2.length:Int)))) (need (0<=vi3/\vi3 < (vs2.length:Int)) (cond (((vs2.getD (vi3).toNat 0).toNat:Int)==(40:Int)) (need (i64ok (vi1+(1:Int))) (Bremark_2 F f1 (vi1+(1:Int)) vs2 vi3 vs4 vc5 vl6 vl7)) (cond (((vs2.getD (vi3).toNat 0).toNat:Int)==(41:Int)) (need (i64ok (vi1 - (1:Int))) (Bremark_2 F f1 (vi1 - (1:Int)) vs2 vi3 vs4 vc5 vl6 vl7)) (cond (((vs2.getD (vi3).toNat 0).toNat:Int)==(92:Int)) (need (i64ok (vi3+(1:Int))) (Bremark_2 F f1 vi1 vs2 (vi3+(1:Int)) vs4 vc5 vl6 vl7)) (Bremark_2 F f1 vi1 vs2 vi3 vs4 vc5 vl6 vl7))))) (some (.tup [],[(70000,.cells [.p (.str vs2),.p (.int .i64 (if (vs2.length:Int) < vi3 then (vs2.length:Int) else vi3)),.arr 70001,.p (.str vs4),.p (.bool vc5),.arr 70002]),(70001,.larr 9 false 1 (.dat .str vl6)),(70002,.larr 70 false 3 (.dat (.pair .str (.pair .str .str)) vl7))])):=
 Eq.trans (show Bremark_1 F (f1+1) vi1 vs2 vi3 vs4 vc5 vl6 vl7=need ((decide (vi1 > (0:Int)))=true->(decide (vi1 > (0:Int)))=true) (need ((decide (vi1 > (0:Int)))=true->(decide (vi1 > (0:Int)))=true) (need ((decide (vi1 > (0:Int)))=true->(decide (vi1 > (0:Int)))=true) (need ((decide (vi1 > (0:Int)))=true->(decide (vi1 > (0:Int)))=true) (need ((decide (vi1 > (0:Int)))=true->(decide (vi1 > (0:Int)))=true) (need ((decide (vi1 > (0:Int)))=true->(decide (vi1 > (0:Int)))=true) (need ((decide (vi1 > (0:Int)))=true->(decide (vi1 > (0:Int)))=true) (need ((decide (vi1 > (0:Int)))=true->(decide (vi1 > (0:Int)))=true) (need ((decide (vi1 > (0:Int)))=true->(decide (vi1 > (0:Int)))=true) (need ((decide (vi1 > (0:Int)))=true->(decide (vi1 > (0:Int)))=true) (cond ((decide (vi1 > (0:Int)))&&(decide (vi3 < (vs2.length:Int)))) (need (0<=vi3/\vi3 < (vs2.length:Int)) (cond (((vs2.getD (vi3).toNat 0).toNat:Int)==(40:Int)) (need (i64ok (vi1+(1:Int))) (Bremark_2 F f1 (vi1+(1:Int)) vs2 vi3 vs4 vc5 vl6 vl7)) (cond (((vs2.getD (vi3).toNat 0).toNat:Int)==(41:Int)) (need (i64ok (vi1 - (1:Int))) (Bremark_2 F f1 (vi1 - (1:Int)) vs2 vi3 vs4 vc5 vl6 vl7)) (cond (((vs2.getD (vi3).toNat 0).toNat:Int)==(92:Int)) (need (i64ok (vi3+(1:Int))) (Bremark_2 F f1 vi1 vs2 (vi3+(1:Int)) vs4 vc5 vl6 vl7)) (Bremark_2 F f1 vi1 vs2 vi3 vs4 vc5 vl6 vl7))))) (some (.tup [],[(70000,.cells [.p (.str vs2),.p (.int .i64 (if (vs2.length:Int) < vi3 then (vs2.length:Int) else vi3)),.arr 70001,.p (.str vs4),.p (.bool vc5),.arr 70002]),(70001,.larr 9 false 1 (.dat .str vl6)),(70002,.larr 70 false 3 (.dat (.pair .str (.pair .str .str)) vl7))])))))))))))) by kernel_rfl) (need_strike (show (decide (vi1 > (0:Int)))=true->(decide (vi1 > (0:Int)))=true from (fun q0=>q0)) (need_strike (show (decide (vi1 > (0:Int)))=true->(decide (vi1 > (0:Int)))=true from (fun q0=>q0)) (need_strike (show (decide (vi1 > (0:Int)))=true->(decide (vi1 > (0:Int)))=true from (fun q0=>q0)) (need_strike (show (decide (vi1 > (0:Int)))=true->(decide (vi1 > (0:Int)))=true from (fun q0=>q0)) (need_strike (show (decide (vi1 > (0:Int)))=true->(decide (vi1 > (0:Int)))=true from (fun q0=>q0)) (need_strike (show (decide (vi1 > (0:Int)))=true->(decide (vi1 > (0:Int)))=true from (fun q0=>q0)) (need_strike (show (decide (vi1 > (0:Int)))=true->(decide (vi1 > (0:Int)))=true from (fun q0=>q0)) (need_strike (show (decide (vi1 > (0:Int)))=true->(decide (vi1 > (0:Int)))=true from (fun q0=>q0)) (need_strike (show (decide (vi1 > (0:Int)))=true->(decide (vi1 > (0:Int)))=true from (fun q0=>q0)) (need_strike (show (decide (vi1 > (0:Int)))=true->(decide (vi1 > (0:Int)))=true from (fun q0=>q0)) (rfl)))))))))))
theorem Bremark_2_eq (F f1:Nat) (vi8:Int) (vs9:List UInt8) (vi10:Int) (vs11:List UInt8) (vc12:Bool) (vl13:List (List UInt8)) (vl14:List (List UInt8×List UInt8×List UInt8)):Bremark_2 F f1 vi8 vs9 vi10 vs11 vc12 vl13 vl14=need (i64ok (vi10+(1:Int))) (Bremark_1 F f1 vi8 vs9 (vi10+(1:Int)) vs11 vc12 vl13 vl14):=by kernel_rfl
theorem Fremark_eq (F:Nat) (s:List UInt8) (at_:Int) (ws:List (List UInt8)) (an:List UInt8) (hs:Bool) (out:List (List UInt8×List UInt8×List UInt8)):Fremark F s at_ ws an hs out=Bremark_1 F F (1:Int) s at_ an hs ws out:=by kernel_rfl
theorem fn_remark (F:Nat) (s:List UInt8) (at_:Int) (ws:List (List UInt8)) (an:List UInt8) (hs:Bool) (out:List (List UInt8×List UInt8×List UInt8)) (r:AV) (os:List (Nat×AObj)) (h:(∃ γ M w vs,ARels γ M [.ref 70000 0] vs/\Objs γ M w (fun i=>lookO i [(70000,.cells [.p (.str s),.p (.int .i64 at_),.arr 70001,.p (.str an),.p (.bool hs),.arr 70002]),(70001,.larr 9 false 1 (.dat .str ws)),(70002,.larr 70 false 3 (.dat (.pair .str (.pair .str .str)) out))]) (fun b=>b < w.heap.size))->Fremark F s at_ ws an hs out=some (r,os)):FnR Tryz.prog 82 [.ref 70000 0] [(70000,.cells [.p (.str s),.p (.int .i64 at_),.arr 70001,.p (.str an),.p (.bool hs),.arr 70002]),(70001,.larr 9 false 1 (.dat .str ws)),(70002,.larr 70 false 3 (.dat (.pair .str (.pair .str .str)) out))] [70000,70001,70002] r os:=
 FnR_run Gremark ⟨[],[⟨.fix 70000,70000,.cells []⟩,⟨.fix 70001,70001,.cells []⟩,⟨.fix 70002,70002,.cells []⟩]⟩ [70000,70001,70002] F rfl (EnvOk_mk (l:=[]) trivial) (EnvROk_mk (l:=[]) trivial) (Checked.mixed Tryz.checked) (fn:=Tryz.f82) (by kernel_rfl) (by kernel_rfl) rfl h
theorem rm_loop (F:Nat) (s an:List UInt8) (hs:Bool) (ws:List (List UInt8)) (out:List AddrT) (hS:s.length<=1000000):∀ (n:Nat) (r:List UInt8) (k i f:Nat),r.length<=n->s.drop i=r->i+r.length=s.length->k<=1+i->r.length < f->
 Bremark_1 F f (k:Int) s (i:Int) an hs ws out=some (.tup [],rdO s ((i:Int)+(rmF k r:Int)) ws an hs out):=by
 intro n
 induction n with
 | zero=>
  intro r k i f hn hd hl hk hf
  obtain rfl:r=[]:=List.eq_nil_of_length_eq_zero (by omega)
  obtain ⟨f,rfl⟩:∃ q,f=q+1:=⟨f - 1,by omega⟩
  have hl:i=s.length:=by simpa using hl
  rw [Bremark_1_eq]
  refine cond_f (by rw [Bool.and_eq_false_iff,decide_eq_false_iff_not,decide_eq_false_iff_not]; omega) ?_
  rw [if_neg (by omega)]
  cases k <;> simp [rmF,rdO]
 | succ n ih=>
  intro r k i f hn hd hl hk hf
  obtain ⟨f,rfl⟩:∃ q,f=q+1:=⟨f - 1,by omega⟩
  cases r with
  | nil=>
   have hl:i=s.length:=by simpa using hl
   rw [Bremark_1_eq]
   refine cond_f (by rw [Bool.and_eq_false_iff,decide_eq_false_iff_not,decide_eq_false_iff_not]; omega) ?_
   rw [if_neg (by omega)]
   cases k <;> simp [rmF,rdO]
  | cons c r=>
   obtain ⟨hg,hd2,hi⟩:=adr_drop hd
   rw [List.length_cons] at hn hl hf
   cases k with
   | zero=>
    rw [Bremark_1_eq]
    refine cond_f (by rw [Bool.and_eq_false_iff,decide_eq_false_iff_not,decide_eq_false_iff_not]; omega) ?_
    rw [if_neg (by omega)]
    simp [rmF,rdO]
   | succ k=>
    rw [Bremark_1_eq]
    refine cond_t (by rw [Bool.and_eq_true,decide_eq_true_iff,decide_eq_true_iff]; omega) (need_mk ⟨by omega,by omega⟩ ?_)
    rw [Int.toNat_natCast,hg,adr_u8 c 40 40 40 rfl rfl,adr_u8 c 41 41 41 rfl rfl,adr_u8 c 92 92 92 rfl rfl]
    have e1:((i:Int)+1)=((i+1:Nat):Int):=by omega
    have e2:(((k+1:Nat):Int)+1)=((k+2:Nat):Int):=by omega
    have e3:(((k+1:Nat):Int) - 1)=(k:Int):=by omega
    by_cases h40:c=40
    .subst h40
     refine cond_t (by decide) (need_mk ⟨by omega,by omega⟩ ?_)
     rw [Bremark_2_eq,e1,e2]
     refine need_mk ⟨by omega,by omega⟩ ?_
     rw [ih r (k+2) (i+1) f (by omega) hd2 (by omega) (by omega) (by omega)]
     cases r with
     | nil=>simp [rmF,rdO]
     | cons d r=>rw [show rmF (k+1) (40::d::r)=rmF (k+2) (d::r)+1 by rw [rmF,if_pos rfl]]; simp [rdO]; omega
    .refine cond_f (by simpa using h40) ?_
     by_cases h41:c=41
     .subst h41
      refine cond_t (by decide) (need_mk ⟨by omega,by omega⟩ ?_)
      rw [Bremark_2_eq,e1,e3]
      refine need_mk ⟨by omega,by omega⟩ ?_
      rw [ih r k (i+1) f (by omega) hd2 (by omega) (by omega) (by omega)]
      cases r with
      | nil=>cases k <;> simp [rmF,rdO]
      | cons d r=>rw [show rmF (k+1) (41::d::r)=rmF k (d::r)+1 by rw [rmF,if_neg (by decide),if_pos rfl]]; simp [rdO]; omega
     .refine cond_f (by simpa using h41) ?_
      by_cases h92:c=92
      .subst h92
       refine cond_t (by decide) (need_mk ⟨by omega,by omega⟩ ?_)
       rw [Bremark_2_eq]
       refine need_mk ⟨by omega,by omega⟩ ?_
       cases r with
       | nil=>
        obtain ⟨f,rfl⟩:∃ q,f=q+1:=⟨f - 1,by omega⟩
        simp only [List.length_nil] at hl
        rw [Bremark_1_eq]
        refine cond_f (by rw [Bool.and_eq_false_iff,decide_eq_false_iff_not,decide_eq_false_iff_not]; omega) ?_
        rw [if_pos (by omega)]
        have:((s.length:Nat):Int)=(i:Int)+1:=by omega
        simp [rmF,rdO,this]
       | cons d r=>
        obtain ⟨hg2,hd3,hi2⟩:=adr_drop hd2
        rw [List.length_cons] at hn hl hf
        have e4:((i:Int)+1+1)=((i+2:Nat):Int):=by omega
        rw [e4,ih r (k+1) (i+2) f (by omega) hd3 (by omega) (by omega) (by omega)]
        rw [show rmF (k+1) (92::d::r)=rmF (k+1) r+2 by rw [rmF,if_neg (by decide),if_neg (by decide),if_pos rfl]]; simp [rdO]; omega
      .refine cond_f (by simpa using h92) ?_
       rw [Bremark_2_eq,e1]
       refine need_mk ⟨by omega,by omega⟩ ?_
       rw [ih r (k+1) (i+1) f (by omega) hd2 (by omega) (by omega) (by omega)]
       cases r with
       | nil=>simp [rmF,rdO]
       | cons d r=>rw [show rmF (k+1) (c::d::r)=rmF (k+1) (d::r)+1 by rw [rmF,if_neg h40,if_neg h41,if_neg h92]]; simp [rdO]; omega
theorem remark_eq (s:List UInt8) (at_:Int) (ws:List (List UInt8)) (an:List UInt8) (hs:Bool) (out:List AddrT) (h:rdok s at_):
 Fremark (s.length+1) s at_ ws an hs out=some (.tup [],rdO s (at_+(rmF 1 (s.drop at_.toNat):Int)) ws an hs out):=by
 obtain ⟨h1,h2,h3⟩:=h
 rw [Fremark_eq]
 obtain ⟨i,rfl⟩:∃ i:Nat,at_=i:=⟨at_.toNat,by omega⟩
 have:=rm_loop (s.length+1) s an hs ws out h1 (s.drop i).length (s.drop i) 1 i (s.length+1) (Nat.le_refl _) rfl (by simp; omega) (by omega) (by simp; omega)
 rw [Int.toNat_natCast]
 exact this
def sp_remark:RSpec:=⟨[false],fun args ib=>match args,ib with
 | [.ref 70000 0],[(70000,.cells [.p (.str s),.p (.int .i64 at_),.arr 70001,.p (.str an),.p (.bool hs),.arr 70002]),(70001,.larr 9 false 1 R),(70002,.larr 70 false 3 Q)]=>
  match pList .str (.list 1 R),pList addrC (.list 3 Q) with
  | some ws,some out=>some (([70000,70001,70002],.tup []),(rdO s (at_+(rmF 1 (s.drop at_.toNat):Int)) ws an hs out,some (rdok s at_)))
  | _,_=>none
 | _,_=>none⟩
theorem ok_remark:SpecROk Tryz.prog 82 sp_remark:=by
 intro args ib kept r outs ok h hok
 simp only [sp_remark] at h
 split at h
 .split at h
  .rename_i ws out hw ho
   obtain ⟨rfl,_⟩:=pList_rowA hw
   obtain ⟨rfl,_⟩:=pList_rowA ho
   cases h
   exact ⟨by kernel_rfl,fn_remark _ _ _ _ _ _ _ _ _ fun _=>remark_eq _ _ _ _ _ _ hok⟩
  .cases h
 .cases h
noncomputable def Gdrop:Cfg:=⟨Tryz.prog,mkEnv [],mkEnvR [],11,[70000,70002],[],[]⟩
noncomputable def Fdrop (F:Nat) (s:List UInt8) (at_:Int) (ws:List (List UInt8)) (an:List UInt8) (hs:Bool) (out:List (List UInt8×List UInt8×List UInt8)):Option Ans:=runFR Gdrop Tryz.f85 ⟨[],[⟨.fix 70000,70000,.cells []⟩,⟨.fix 70002,70002,.cells []⟩,⟨.cell 70000 2,70001002,(.larr 9 false 1 (.dat .str ([]:List (List UInt8))))⟩]⟩ [70000,70002,70001002] F [.ref 70000 0] [(70000,.cells [.p (.str s),.p (.int .i64 at_),.arr 70001,.p (.str an),.p (.bool hs),.arr 70002]),(70001,.larr 9 false 1 (.dat .str ws)),(70002,.larr 70 false 3 (.dat (.pair .str (.pair .str .str)) out))]
theorem Fdrop_eq (F:Nat) (s:List UInt8) (at_:Int) (ws:List (List UInt8)) (an:List UInt8) (hs:Bool) (out:List (List UInt8×List UInt8×List UInt8)):Fdrop F s at_ ws an hs out=some (.tup [],[(70000,.cells [.p (.str s),.p (.int .i64 at_),.arr 70001002,.p (.str ([]:List UInt8)),.p (.bool false),.arr 70002]),(70002,.larr 70 false 3 (.dat (.pair .str (.pair .str .str)) out)),(70001002,.larr 9 false 1 (.dat .str ([]:List (List UInt8))))]):=by kernel_rfl
theorem fn_drop (F:Nat) (s:List UInt8) (at_:Int) (ws:List (List UInt8)) (an:List UInt8) (hs:Bool) (out:List (List UInt8×List UInt8×List UInt8)) (r:AV) (os:List (Nat×AObj)) (h:(∃ γ M w vs,ARels γ M [.ref 70000 0] vs/\Objs γ M w (fun i=>lookO i [(70000,.cells [.p (.str s),.p (.int .i64 at_),.arr 70001,.p (.str an),.p (.bool hs),.arr 70002]),(70001,.larr 9 false 1 (.dat .str ws)),(70002,.larr 70 false 3 (.dat (.pair .str (.pair .str .str)) out))]) (fun b=>b < w.heap.size))->Fdrop F s at_ ws an hs out=some (r,os)):FnR Tryz.prog 85 [.ref 70000 0] [(70000,.cells [.p (.str s),.p (.int .i64 at_),.arr 70001,.p (.str an),.p (.bool hs),.arr 70002]),(70001,.larr 9 false 1 (.dat .str ws)),(70002,.larr 70 false 3 (.dat (.pair .str (.pair .str .str)) out))] [70000,70002] r os:=
 FnR_run Gdrop ⟨[],[⟨.fix 70000,70000,.cells []⟩,⟨.fix 70002,70002,.cells []⟩,⟨.cell 70000 2,70001002,(.larr 9 false 1 (.dat .str ([]:List (List UInt8))))⟩]⟩ [70000,70002,70001002] F rfl (EnvOk_mk (l:=[]) trivial) (EnvROk_mk (l:=[]) trivial) (Checked.mixed Tryz.checked) (fn:=Tryz.f85) (by kernel_rfl) (by kernel_rfl) rfl h
def sp_drop:RSpec:=⟨[false],fun args ib=>match args,ib with
 | [.ref 70000 0],[(70000,.cells [.p (.str s),.p (.int .i64 at_),.arr 70001,.p (.str an),.p (.bool hs),.arr 70002]),(70001,.larr 9 false 1 R),(70002,.larr 70 false 3 Q)]=>
  match pList .str (.list 1 R),pList addrC (.list 3 Q) with
  | some ws,some out=>some (([70000,70002],.tup []),([(70000,.cells [.p (.str s),.p (.int .i64 at_),.arr 70001002,.p (.str []),.p (.bool false),.arr 70002]),(70002,.larr 70 false 3 (.dat addrC out)),(70001002,.larr 9 false 1 (.dat .str []))],none))
  | _,_=>none
 | _,_=>none⟩
theorem ok_drop:SpecROk Tryz.prog 85 sp_drop:=by
 intro args ib kept r outs ok h hok
 simp only [sp_drop] at h
 split at h
 .split at h
  .rename_i ws out hw ho
   obtain ⟨rfl,_⟩:=pList_rowA hw
   obtain ⟨rfl,_⟩:=pList_rowA ho
   cases h
   exact ⟨by kernel_rfl,fn_drop 0 _ _ _ _ _ _ _ _ fun _=>by rw [Fdrop_eq]⟩
  .cases h
 .cases h
end Go.Proofs.YtoanepondbagcaaGreatDoor
namespace Go.Proofs.YtoanepondbagcaaGreatDoor
open Go Go.Am
set_option linter.unusedVariables false
noncomputable def Glibs0:Cfg:=⟨Tryz.prog,mkEnv [],mkEnvR [],19,[],[],[]⟩
noncomputable def Flibs0 (F:Nat) (c:Int):Option Ans:=runF Glibs0 Tryz.f163 F [.p (.str ([]:List UInt8)),.p (.int .u8 c)]
theorem Flibs0_eq (F:Nat) (c:Int):Flibs0 (F+1) c=need (i64ok ((0:Int) - (1:Int))) (some (.p (.int .i64 (-1:Int)),[])):=by kernel_rfl
theorem fn_libs0 (F:Nat) (c:Int) (r:AV) (h:(∃ M vs,ARels γ0 M [.p (.str ([]:List UInt8)),.p (.int .u8 c)] vs)->Flibs0 F c=some (r,[])):FnP Tryz.prog 163 [.p (.str ([]:List UInt8)),.p (.int .u8 c)] r:=
 FnP_run Glibs0 F rfl (EnvOk_mk (l:=[]) trivial) (EnvROk_mk (l:=[]) trivial) (Checked.mixed Tryz.checked) (fn:=Tryz.f163) (by kernel_rfl) (by kernel_rfl) rfl h
def sp_libs0:List AV->Option (AV×Option Prop)
 | [.p (.str []),.p (.int .u8 c)]=>some (.p (.int .i64 (-1)),none)
 | _=>none
theorem ok_libs0:SpecOk Tryz.prog 163 sp_libs0:=by
 intro zs r ok he hok
 unfold sp_libs0 at he
 split at he
 .cases he; exact ⟨by kernel_rfl,fn_libs0 1 _ _ fun _=>by rw [Flibs0_eq]; exact need_mk (by unfold i64ok; omega) rfl⟩
 .cases he
noncomputable def Glib0:Cfg:=⟨Tryz.prog,mkEnv [(163,sp_libs0)],mkEnvR [],8,[],[],[]⟩
noncomputable def Flib0 (F:Nat) (c:Int):Option Ans:=runF Glib0 Tryz.f144 F [.p (.str ([]:List UInt8)),.p (.int .u8 c)]
theorem Flib0_eq (F:Nat) (c:Int):Flib0 F c=some (.p (.int .i64 (-1:Int)),[]):=by kernel_rfl
theorem fn_lib0 (F:Nat) (c:Int) (r:AV) (h:(∃ M vs,ARels γ0 M [.p (.str ([]:List UInt8)),.p (.int .u8 c)] vs)->Flib0 F c=some (r,[])):FnP Tryz.prog 144 [.p (.str ([]:List UInt8)),.p (.int .u8 c)] r:=
 FnP_run Glib0 F rfl (EnvOk_mk (l:=[(163,sp_libs0)]) ⟨ok_libs0.any,trivial⟩) (EnvROk_mk (l:=[]) trivial) (Checked.mixed Tryz.checked) (fn:=Tryz.f144) (by kernel_rfl) (by kernel_rfl) rfl h
def sp_lib0:List AV->Option (AV×Option Prop)
 | [.p (.str []),.p (.int .u8 c)]=>some (.p (.int .i64 (-1)),none)
 | _=>none
theorem ok_lib0:SpecOk Tryz.prog 144 sp_lib0:=by
 intro zs r ok he hok
 unfold sp_lib0 at he
 split at he
 .cases he; exact ⟨by kernel_rfl,fn_lib0 0 _ _ fun _=>by rw [Flib0_eq]⟩
 .cases he
noncomputable def Gapart0:Cfg:=⟨Tryz.prog,mkEnv [(144,sp_lib0)],mkEnvR [],17,[],[],[]⟩
noncomputable def Fapart0 (F:Nat) :Option Ans:=runF Gapart0 Tryz.f123 F [.p (.str ([]:List UInt8))]
theorem Fapart0_eq (F:Nat) :Fapart0 F =some (.tup [.p (.str ([]:List UInt8)),.p (.str ([]:List UInt8))],[]):=by kernel_rfl
theorem fn_apart0 (F:Nat)  (r:AV) (h:(∃ M vs,ARels γ0 M [.p (.str ([]:List UInt8))] vs)->Fapart0 F =some (r,[])):FnP Tryz.prog 123 [.p (.str ([]:List UInt8))] r:=
 FnP_run Gapart0 F rfl (EnvOk_mk (l:=[(144,sp_lib0)]) ⟨ok_lib0.any,trivial⟩) (EnvROk_mk (l:=[]) trivial) (Checked.mixed Tryz.checked) (fn:=Tryz.f123) (by kernel_rfl) (by kernel_rfl) rfl h
def sp_apart0:List AV->Option (AV×Option Prop)
 | [.p (.str [])]=>some (.tup [.p (.str []),.p (.str [])],none)
 | _=>none
theorem ok_apart0:SpecOk Tryz.prog 123 sp_apart0:=by
 intro zs r ok he hok
 unfold sp_apart0 at he
 split at he
 .cases he; exact ⟨by kernel_rfl,fn_apart0 0 _ fun _=>by rw [Fapart0_eq]⟩
 .cases he
noncomputable def Gjoin0:Cfg:=⟨Tryz.prog,mkEnv [],mkEnvR [],75,[],[],[]⟩
noncomputable def Fjoin0 (F:Nat) :Option Ans:=runF Gjoin0 Tryz.f27 F [.p .nil,.p (.str ([]:List UInt8))]
theorem Fjoin0_eq (F:Nat) :Fjoin0 F =some (.p (.str ([]:List UInt8)),[]):=by kernel_rfl
theorem fn_join0 (F:Nat)  (r:AV) (h:(∃ M vs,ARels γ0 M [.p .nil,.p (.str ([]:List UInt8))] vs)->Fjoin0 F =some (r,[])):FnP Tryz.prog 27 [.p .nil,.p (.str ([]:List UInt8))] r:=
 FnP_run Gjoin0 F rfl (EnvOk_mk (l:=[]) trivial) (EnvROk_mk (l:=[]) trivial) (Checked.mixed Tryz.checked) (fn:=Tryz.f27) (by kernel_rfl) (by kernel_rfl) rfl h
def sp_join0:List AV->Option (AV×Option Prop)
 | [.p .nil,.p (.str [])]=>some (.p (.str []),none)
 | _=>none
theorem ok_join0:SpecOk Tryz.prog 27 sp_join0:=by
 intro zs r ok he hok
 unfold sp_join0 at he
 split at he
 .cases he; exact ⟨by kernel_rfl,fn_join0 0 _ fun _=>by rw [Fjoin0_eq]⟩
 .cases he
def rd0:AObj:=.cells [.p (.str []),.p (.int .i64 0),.p .nil,.p (.str []),.p (.bool false),.p .nil]
noncomputable def Gdrop0:Cfg:=⟨Tryz.prog,mkEnv [],mkEnvR [],11,[70000],[],[]⟩
noncomputable def Fdrop0 (F:Nat) :Option Ans:=runFR Gdrop0 Tryz.f85 ⟨[],[⟨.fix 70000,70000,.cells []⟩]⟩ [70000] F [.ref 70000 0] [(70000,.cells [.p (.str ([]:List UInt8)),.p (.int .i64 (0:Int)),.p .nil,.p (.str ([]:List UInt8)),.p (.bool false),.p .nil])]
theorem Fdrop0_eq (F:Nat) :Fdrop0 F =some (.tup [],[(70000,.cells [.p (.str ([]:List UInt8)),.p (.int .i64 (0:Int)),.p .nil,.p (.str ([]:List UInt8)),.p (.bool false),.p .nil])]):=by kernel_rfl
theorem fn_drop0 (F:Nat)  (r:AV) (os:List (Nat×AObj)) (h:(∃ γ M w vs,ARels γ M [.ref 70000 0] vs/\Objs γ M w (fun i=>lookO i [(70000,.cells [.p (.str ([]:List UInt8)),.p (.int .i64 (0:Int)),.p .nil,.p (.str ([]:List UInt8)),.p (.bool false),.p .nil])]) (fun b=>b < w.heap.size))->Fdrop0 F =some (r,os)):FnR Tryz.prog 85 [.ref 70000 0] [(70000,.cells [.p (.str ([]:List UInt8)),.p (.int .i64 (0:Int)),.p .nil,.p (.str ([]:List UInt8)),.p (.bool false),.p .nil])] [70000] r os:=
 FnR_run Gdrop0 ⟨[],[⟨.fix 70000,70000,.cells []⟩]⟩ [70000] F rfl (EnvOk_mk (l:=[]) trivial) (EnvROk_mk (l:=[]) trivial) (Checked.mixed Tryz.checked) (fn:=Tryz.f85) (by kernel_rfl) (by kernel_rfl) rfl h
def sp_drop0:RSpec:=⟨[false],fun args ib=>match args,ib with
 | [.ref 70000 0],[(70000,.cells [.p (.str []),.p (.int .i64 0),.p .nil,.p (.str []),.p (.bool false),.p .nil])]=>some (([70000],.tup []),([(70000,rd0)],none))
 | _,_=>none⟩
theorem ok_drop0:SpecROk Tryz.prog 85 sp_drop0:=by
 intro args ib kept r outs ok he hok
 simp only [sp_drop0] at he
 split at he
 .cases he; exact ⟨by kernel_rfl,fn_drop0 0 _ _ fun _=>by rw [Fdrop0_eq]; rfl⟩
 .cases he
noncomputable def Gtell0:Cfg:=⟨Tryz.prog,mkEnv [(27,sp_join0),(123,sp_apart0)],mkEnvR [(85,sp_drop0)],55,[70000],[],[([1,1,1],[1])]⟩
noncomputable def Ftell0 (F:Nat) :Option Ans:=runFR Gtell0 Tryz.f86 ⟨[],[⟨.fix 70000,70000,.cells []⟩]⟩ [70000] F [.ref 70000 0] [(70000,.cells [.p (.str ([]:List UInt8)),.p (.int .i64 (0:Int)),.p .nil,.p (.str ([]:List UInt8)),.p (.bool false),.p .nil])]
theorem Ftell0_eq (F:Nat) :Ftell0 F =(((some (.tup [],[(70000,.cells [.p (.str ([]:List UInt8)),.p (.int .i64 (0:Int)),.p .nil,.p (.str ([]:List UInt8)),.p (.bool false),.p .nil])])))):=by
 have h:Ftell0 F =need ((!(([]:List UInt8) != ([]:List UInt8)))=true->(!(([]:List UInt8) != ([]:List UInt8)))=true) (need ((!(([]:List UInt8) != ([]:List UInt8)))=true->(!(([]:List UInt8) != ([]:List UInt8)))=true) (need ((([]:List UInt8) != ([]:List UInt8))=false->(!(([]:List UInt8) != ([]:List UInt8)))=true) (some (.tup [],[(70000,.cells [.p (.str ([]:List UInt8)),.p (.int .i64 (0:Int)),.p .nil,.p (.str ([]:List UInt8)),.p (.bool false),.p .nil])])))):=by kernel_rfl
 rw [h,need_pos (show (([]:List UInt8) != ([]:List UInt8))=false->(!(([]:List UInt8) != ([]:List UInt8)))=true from (fun q0=>(not_mk q0))),need_pos (show (!(([]:List UInt8) != ([]:List UInt8)))=true->(!(([]:List UInt8) != ([]:List UInt8)))=true from (fun q0=>q0)),need_pos (show (!(([]:List UInt8) != ([]:List UInt8)))=true->(!(([]:List UInt8) != ([]:List UInt8)))=true from (fun q0=>q0))]
theorem fn_tell0 (F:Nat)  (r:AV) (os:List (Nat×AObj)) (h:(∃ γ M w vs,ARels γ M [.ref 70000 0] vs/\Objs γ M w (fun i=>lookO i [(70000,.cells [.p (.str ([]:List UInt8)),.p (.int .i64 (0:Int)),.p .nil,.p (.str ([]:List UInt8)),.p (.bool false),.p .nil])]) (fun b=>b < w.heap.size))->Ftell0 F =some (r,os)):FnR Tryz.prog 86 [.ref 70000 0] [(70000,.cells [.p (.str ([]:List UInt8)),.p (.int .i64 (0:Int)),.p .nil,.p (.str ([]:List UInt8)),.p (.bool false),.p .nil])] [70000] r os:=
 FnR_run Gtell0 ⟨[],[⟨.fix 70000,70000,.cells []⟩]⟩ [70000] F rfl (EnvOk_mk (l:=[(27,sp_join0),(123,sp_apart0)]) ⟨ok_join0.any,ok_apart0.any,trivial⟩) (EnvROk_mk (l:=[(85,sp_drop0)]) ⟨ok_drop0,trivial⟩) (Checked.mixed Tryz.checked) (fn:=Tryz.f86) (by kernel_rfl) (by kernel_rfl) rfl h
def sp_tell0:RSpec:=⟨[false],fun args ib=>match args,ib with
 | [.ref 70000 0],[(70000,.cells [.p (.str []),.p (.int .i64 0),.p .nil,.p (.str []),.p (.bool false),.p .nil])]=>some (([70000],.tup []),([(70000,rd0)],none))
 | _,_=>none⟩
theorem ok_tell0:SpecROk Tryz.prog 86 sp_tell0:=by
 intro args ib kept r outs ok he hok
 simp only [sp_tell0] at he
 split at he
 .cases he; exact ⟨by kernel_rfl,fn_tell0 0 _ _ fun _=>by rw [Ftell0_eq]; rfl⟩
 .cases he
noncomputable def Galist0:Cfg:=⟨Tryz.prog,mkEnv [],mkEnvR [(86,sp_tell0)],153,[],[],[([0,1,1,1],[1])]⟩
noncomputable def Falist0 (F:Nat) :Option Ans:=runF Galist0 Tryz.f49 F [.p (.str ([]:List UInt8))]
theorem Falist0_eq (F:Nat) :Falist0 (F+1) =some (.p .nil,[]):=by kernel_rfl
theorem fn_alist0 (F:Nat)  (r:AV) (h:(∃ M vs,ARels γ0 M [.p (.str ([]:List UInt8))] vs)->Falist0 F =some (r,[])):FnP Tryz.prog 49 [.p (.str ([]:List UInt8))] r:=
 FnP_run Galist0 F rfl (EnvOk_mk (l:=[]) trivial) (EnvROk_mk (l:=[(86,sp_tell0)]) ⟨ok_tell0,trivial⟩) (Checked.mixed Tryz.checked) (fn:=Tryz.f49) (by kernel_rfl) (by kernel_rfl) rfl h
def sp_alist0:List AV->Option (AV×Option Prop)
 | [.p (.str [])]=>some (.p .nil,none)
 | _=>none
theorem ok_alist0:SpecOk Tryz.prog 49 sp_alist0:=by
 intro zs r ok he hok
 unfold sp_alist0 at he
 split at he
 .cases he; exact ⟨by kernel_rfl,fn_alist0 1 _ fun _=>by rw [Falist0_eq]⟩
 .cases he
end Go.Proofs.YtoanepondbagcaaGreatDoor
namespace Go.Proofs.YtoanepondbagcaaGreatDoor
open Go Go.Am
set_option linter.unusedVariables false
def isBl2 (c:UInt8):Bool:=[32,9].contains c
def trimBl (s:List UInt8):List UInt8:=(s.reverse.dropWhile isBl2).reverse.dropWhile isBl2
theorem trimBl_lib (s:List UInt8):Lib.trimS s [32,9]=trimBl s:=rfl
theorem dropWhile_le (p:UInt8->Bool):∀ l:List UInt8,(l.dropWhile p).length<=l.length
 | []=>by simp
 | c::r=>by rw [List.dropWhile_cons]; split <;> simp; exact Nat.le_succ_of_le (dropWhile_le p r)
theorem trimBl_len (s:List UInt8):(trimBl s).length<=s.length:=by
 unfold trimBl
 have h1:=dropWhile_le isBl2 (s.reverse.dropWhile isBl2).reverse
 have h2:=dropWhile_le isBl2 s.reverse
 simp at h1 h2; omega
end Go.Proofs.YtoanepondbagcaaGreatDoor
namespace Go.Proofs.YtoanepondbagcaaGreatDoor
open Go.Shelf
def lays160_ren : Go.Shelf.Ren:=⟨fun |160=>119|232=>132|231=>138|227=>133|234=>134|233=>139|236=>135|235=>140|228=>153|271=>154|151=>155|197=>137|120=>171|152=>169|260=>156|137=>87|119=>183|224=>147|225=>146|217=>124|266=>145|n=>n, fun |9=>9|4=>4|3=>3|5=>5|117=>155|116=>154|0=>0|124=>158|21=>21|105=>160|46=>103|119=>176|139=>195|138=>194|n=>n, fun |3=>1|4=>2|n=>n⟩
theorem lays160 : Go.Proofs.Lays.n160 Tryz.prog lays160_ren:={
 mixed:=by kernel_rfl
 f119:=Tryz.func183.trans (congrArg some (by kernel_rfl))
 f120:=Tryz.func171.trans (congrArg some (by kernel_rfl))
 f137:=Tryz.func87.trans (congrArg some (by kernel_rfl))
 f151:=Tryz.func155.trans (congrArg some (by kernel_rfl))
 f152:=Tryz.func169.trans (congrArg some (by kernel_rfl))
 f160:=Tryz.func119.trans (congrArg some (by kernel_rfl))
 f197:=Tryz.func137.trans (congrArg some (by kernel_rfl))
 f217:=Tryz.func124.trans (congrArg some (by kernel_rfl))
 f224:=Tryz.func147.trans (congrArg some (by kernel_rfl))
 f225:=Tryz.func146.trans (congrArg some (by kernel_rfl))
 f227:=Tryz.func133.trans (congrArg some (by kernel_rfl))
 f228:=Tryz.func153.trans (congrArg some (by kernel_rfl))
 f231:=Tryz.func138.trans (congrArg some (by kernel_rfl))
 f232:=Tryz.func132.trans (congrArg some (by kernel_rfl))
 f233:=Tryz.func139.trans (congrArg some (by kernel_rfl))
 f234:=Tryz.func134.trans (congrArg some (by kernel_rfl))
 f235:=Tryz.func140.trans (congrArg some (by kernel_rfl))
 f236:=Tryz.func135.trans (congrArg some (by kernel_rfl))
 f260:=Tryz.func156.trans (congrArg some (by kernel_rfl))
 f266:=Tryz.func145.trans (congrArg some (by kernel_rfl))
 f271:=Tryz.func154.trans (congrArg some (by kernel_rfl))
 t0:=Tryz.underlying0
 a0:=Tryz.isAgg0
 z0:=Tryz.sizeOf0
 v0:=Tryz.zeroValue0
 t3:=Tryz.underlying3
 a3:=Tryz.isAgg3
 z3:=Tryz.sizeOf3
 v3:=Tryz.zeroValue3
 t4:=Tryz.underlying4
 a4:=Tryz.isAgg4
 z4:=Tryz.sizeOf4
 v4:=Tryz.zeroValue4
 t5:=Tryz.underlying5
 a5:=Tryz.isAgg5
 z5:=Tryz.sizeOf5
 v5:=Tryz.zeroValue5
 t9:=Tryz.underlying9
 a9:=Tryz.isAgg9
 z9:=Tryz.sizeOf9
 v9:=Tryz.zeroValue9
 t21:=Tryz.underlying21
 a21:=Tryz.isAgg21
 z21:=Tryz.sizeOf21
 v21:=Tryz.zeroValue21
 t46:=Tryz.underlying103
 a46:=Tryz.isAgg103
 z46:=Tryz.sizeOf103
 v46:=Tryz.zeroValue103
 t105:=Tryz.underlying160
 a105:=Tryz.isAgg160
 z105:=Tryz.sizeOf160
 v105:=Tryz.zeroValue160
 t116:=Tryz.underlying154
 a116:=Tryz.isAgg154
 z116:=Tryz.sizeOf154
 t117:=Tryz.underlying155
 a117:=Tryz.isAgg155
 z117:=Tryz.sizeOf155
 v117:=Tryz.zeroValue155
 t119:=Tryz.underlying176
 a119:=Tryz.isAgg176
 z119:=Tryz.sizeOf176
 t124:=Tryz.underlying158
 a124:=Tryz.isAgg158
 z124:=Tryz.sizeOf158
 v124:=Tryz.zeroValue158
 t138:=Tryz.underlying194
 a138:=Tryz.isAgg194
 z138:=Tryz.sizeOf194
 v138:=Tryz.zeroValue194
 t139:=Tryz.underlying195
 a139:=Tryz.isAgg195
 z139:=Tryz.sizeOf195
 v139:=Tryz.zeroValue195
 g3:=by kernel_rfl
 g4:=by kernel_rfl }
end Go.Proofs.YtoanepondbagcaaGreatDoor
namespace Go.Proofs.YtoanepondbagcaaGreatDoor
open Go Go.Am Go.Shelf
def sp_trim2:List AV->Option (AV×Option Prop)
 | [.p (.str s),.p (.str [32,9])]=>some (.p (.str (trimBl s)),some (s.length<=1000000))
 | _=>none
theorem ok_trim2:SpecOk Tryz.prog 119 sp_trim2:=by
 intro zs r ok he hok
 unfold sp_trim2 at he
 split at he
 .rename_i s
  cases he
  refine ⟨by kernel_rfl,fun M w vs hM hvs=>?_⟩
  cases hvs with | cons h1 h2=>
  cases h2 with | cons h2 h3=>
  cases h3
  cases h1 with | p _ _ h1=>
  cases h2 with | p _ _ h2=>
  cases h1 with | str _ hs=>
  cases h2 with | str _ hc=>
  have hok:s.length<=1000000:=hok
  have hcon:=Any.strings_Trim_laid lays160 (by kernel_rfl) ⟨s.toArray⟩ ⟨#[32,9]⟩ w (by show s.toArray.size<=_; simp; omega) (by decide) (ascii_of_all (by decide))
  refine Calls.mono hcon fun e w' ⟨he,hB⟩=>?_
  refine ⟨_,M,he,MLe.refl M,fun _ _=>rfl,⟨fun b q v hv=>?_,hM.good⟩,.p _ _ (.str (trimBl s) ?_),hB⟩
  .have hc:=hM b q v hv
   have hb:b < w.heap.size:=World.block_lt_of_cell? w ⟨b,q,none⟩ hc
   rw [World.cell?_of_block (w:=w) (hB.block b hb)]; exact hc
  .have:=trimBl_len s
   unfold maxLen; omega
 .cases he
end Go.Proofs.YtoanepondbagcaaGreatDoor
