/-
  Lifted functions, and facts about them.
-/
import Derived.Test.YtampckbjinodgaaGreatDoorRows
import Derived.Test.YtampckbjinodgaaGreatDoorC01
import Derived.Test.YtampckbjinodgaaGreatDoorAmC
import Derived.Test.YtampckbjinodgaaGreatDoorC12
import Derived.Shelf.Strings.Count
import Derived.Laws.CopyOwn
import Derived.Deep.Cut
import Derived.Deep.CutRange
import Derived.Deep.DeepMust
import Derived.Test.YtampckbjinodgaaGreatDoorC02
import Derived.Test.YtampckbjinodgaaGreatDoorC05
set_option linter.unusedVariables false
noncomputable section
namespace Go.Proofs.YtampckbjinodgaaGreatDoor
open Go Go.Am
end Go.Proofs.YtampckbjinodgaaGreatDoor
namespace Go.Proofs.YtampckbjinodgaaGreatDoor
open Go Go.RowKit
abbrev rpI(w:World):Value:=.iface 217 (.pointer (some ⟨w.heap.size+1,0,none⟩))
theorem zcZ{w w':World}(hB:Below w.heap.size w w'){a:Addr}{v:Value}(h:w.cell? a=some v)(hz:w.frozen? a=false):w'.frozen? a=false:=by
 rw[World.frozen?_of_block (w:=w) (hB.block _ (World.block_lt_of_cell? w a h))];exact hz
set_option maxRecDepth 100000 in
set_option maxHeartbeats 4000000 in
theorem zNI(b R off cap:Nat)(x3:Value)(w:World)(h3:w.cell? ⟨b,3,none⟩=some x3)(h4:w.cell? ⟨b,4,none⟩=some (.slice (some ⟨R,off,none⟩) 4 cap))(f3:w.frozen? ⟨b,3,none⟩=false)(f4:w.frozen? ⟨b,4,none⟩=false)
 (r0:w.cell? ⟨R,off,none⟩=some (.string ⟨#[32]⟩)) (r1:w.cell? ⟨R,off+1,none⟩=some (.string ⟨#[]⟩)) (r2:w.cell? ⟨R,off+2,none⟩=some (.string ⟨#[9]⟩)) (r3:w.cell? ⟨R,off+3,none⟩=some (.string ⟨#[]⟩)):
 Calls Tryz.prog 105 #[.pointer (some ⟨b,0,none⟩)] w fun e w'=>e=.returned (.tuple #[])/\∃ W2,zvl w W2 2/\w'=(W2.setCell ⟨b,3,none⟩ (rpI w)).setCell ⟨b,4,none⟩ (.slice none 0 0):=by
 go_enter Tryz.func105,Tryz.ntmps105
 go_wp2_with (go_at_call 137;refine(zIl b R off cap w h4 r0 r1 r2 r3).mono ?_;rintro e W2 ⟨rfl,hst⟩;have c3:=yD hst.1 h3;have z3:=zcZ hst.1 h3 f3;have c4:=yD hst.1 h4;have z4:=zcZ hst.1 h4 f4)
 go_end0
 exact⟨rfl,W2,hst,rfl⟩
set_option maxRecDepth 100000 in
set_option maxHeartbeats 4000000 in
theorem zNH(b R off cap:Nat)(hRb:R≠b)(x3:Value)(w:World)(h0:w.cell? ⟨b,0,none⟩=some (.int .u32 0))(h1:w.cell? ⟨b,1,none⟩=some (.int .i32 0))(h3:w.cell? ⟨b,3,none⟩=some x3)
 (h4:w.cell? ⟨b,4,none⟩=some (.slice (some ⟨R,off,none⟩) 4 cap)) (f0:w.frozen? ⟨b,0,none⟩=false) (f1:w.frozen? ⟨b,1,none⟩=false) (f3:w.frozen? ⟨b,3,none⟩=false) (f4:w.frozen? ⟨b,4,none⟩=false)
 (r0:w.cell? ⟨R,off,none⟩=some (.string ⟨#[32]⟩)) (r1:w.cell? ⟨R,off+1,none⟩=some (.string ⟨#[]⟩)) (r2:w.cell? ⟨R,off+2,none⟩=some (.string ⟨#[9]⟩)) (r3:w.cell? ⟨R,off+3,none⟩=some (.string ⟨#[]⟩)):
 Calls Tryz.prog 136 #[.pointer (some ⟨b,0,none⟩),.func (.func 105) #[.pointer (some ⟨b,0,none⟩)] #[]] w fun e w'=>e=.returned (.tuple #[])/\
  ∃ W2,zvl (w.setCell ⟨b,1,none⟩ (.int .i32 1)) W2 2/\w'=(((W2.setCell ⟨b,3,none⟩ (rpI (w.setCell ⟨b,1,none⟩ (.int .i32 1)))).setCell ⟨b,4,none⟩ (.slice none 0 0)).drew.setCell ⟨b,0,none⟩ (.int .u32 1)).setCell ⟨b,1,none⟩ (.int .i32 0):=by
 have hl:=run_call_load (P:=Tryz.prog) Tryz.func163 (by kernel_rfl) (by kernel_rfl) (by kernel_rfl) .u32 (by kernel_rfl) (w:=w.setCell ⟨b,1,none⟩ (.int .i32 1)) (a:=⟨b,0,none⟩) (x:=0) ((World.cell?_setCell_other _ ⟨b,1,none⟩ ⟨b,0,none⟩ _ (by simp)).trans h0)
 have other:∀ (a:Addr) (v:Value),a≠⟨b,1,none⟩->w.cell? a=some v->(w.setCell ⟨b,1,none⟩ (.int .i32 1)).cell? a=some v:=fun a v hne h=>(World.cell?_setCell_other _ ⟨b,1,none⟩ a _ (by first|exact hne|exact fun e=>hne e.symm)).trans h
 have hne:∀ q:Nat,(⟨R,q,none⟩:Addr)≠⟨b,1,none⟩:=fun q e=>hRb (congrArg Addr.block e)
 have hnot:∀ (x:Bool) (w:World),(Op.unary .not (.bool x)).run Tryz.prog w=.ok (.bool (!x)) w:=fun _ _=>rfl
 go_enter_defers Tryz.func136,Tryz.ntmps136
 go_wp2_with (first
  | (go_at_call 164;refine(zNK ⟨b,1,none⟩ _ (by go_simp) (by go_simp)).mono ?_;rintro e w' ⟨rfl,rfl⟩)
  | (go_at_call 135;go_in))
 obtain⟨w1,hw1⟩:∃ w1,w1=w.setCell ⟨b,1,none⟩ (.int .i32 1):=⟨_,rfl⟩
 have g0:=other ⟨b,0,none⟩ _ (by simp) h0
 have g1:w1.cell? ⟨b,1,none⟩=some (.int .i32 1):=by rw[hw1];exact World.cell?_setCell_same w _ _ h1
 have g3:=other ⟨b,3,none⟩ _ (by simp) h3
 have g4:=other ⟨b,4,none⟩ _ (by simp) h4
 have s0:=other _ _ (hne _) r0
 have s1:=other _ _ (hne _) r1
 have s2:=other _ _ (hne _) r2
 have s3:=other _ _ (hne _) r3
 have z0:w1.frozen? ⟨b,0,none⟩=false:=by rw[hw1];simpa using f0
 have z1:w1.frozen? ⟨b,1,none⟩=false:=by rw[hw1];simpa using f1
 have z3:w1.frozen? ⟨b,3,none⟩=false:=by rw[hw1];simpa using f3
 have z4:w1.frozen? ⟨b,4,none⟩=false:=by rw[hw1];simpa using f4
 rw[<-hw1]at g0 g3 g4 s0 s1 s2 s3 ⊢
 refine(zNI b R off cap x3 w1 g3 g4 z3 z4 s0 s1 s2 s3).mono ?_
 rintro e w' ⟨rfl,W2,hst,rfl⟩
 have c0:=yD hst.1 g0
 have c1:=yD hst.1 g1
 have y0:=zcZ hst.1 g0 z0
 have y1:=zcZ hst.1 g1 z1
 go_wp2
 refine leaves_cons (f:=166) (args:=#[.pointer (some ⟨b,0,none⟩),.bool true]) (by simp) (by simp[go_sem]) ?_
 refine(zIk ⟨b,0,none⟩ (.int .u32 0) .returning _ ?_ (by simp[y0])).mono ?_
 .exact (World.cell?_setCell_other _ ⟨b,4,none⟩ ⟨b,0,none⟩ _ (by simp)).trans ((World.cell?_setCell_other _ ⟨b,3,none⟩ ⟨b,0,none⟩ _ (by simp)).trans c0)
 rintro e u' w'' ⟨rfl,rfl,rfl⟩
 refine leaves_cons (f:=165) (args:=#[.pointer (some ⟨b,1,none⟩)]) (by simp[settle]) (by simp[go_sem]) ?_
 refine(zE4 ⟨b,1,none⟩ _ _ ?_ (by simp[y1])).mono ?_
 .refine (World.cell?_setCell_other _ ⟨b,0,none⟩ ⟨b,1,none⟩ _ (by simp)).trans ?_
  rw[World.cell?_drew]
  exact(World.cell?_setCell_other _ ⟨b,4,none⟩ ⟨b,1,none⟩ _ (by simp)).trans ((World.cell?_setCell_other _ ⟨b,3,none⟩ ⟨b,1,none⟩ _ (by simp)).trans c1)
 rintro e u' w'' ⟨rfl,rfl,rfl⟩
 simp[Leaves,settle,results,Tryz.results136]
 subst hw1
 exact⟨W2,hst,rfl⟩
set_option maxRecDepth 100000 in
set_option maxHeartbeats 4000000 in
theorem zTt(b R off cap:Nat)(hRb:R≠b)(x3:Value)(w:World)(h0:w.cell? ⟨b,0,none⟩=some (.int .u32 0))(h1:w.cell? ⟨b,1,none⟩=some (.int .i32 0))(h3:w.cell? ⟨b,3,none⟩=some x3)
 (h4:w.cell? ⟨b,4,none⟩=some (.slice (some ⟨R,off,none⟩) 4 cap)) (f0:w.frozen? ⟨b,0,none⟩=false) (f1:w.frozen? ⟨b,1,none⟩=false) (f3:w.frozen? ⟨b,3,none⟩=false) (f4:w.frozen? ⟨b,4,none⟩=false)
 (r0:w.cell? ⟨R,off,none⟩=some (.string ⟨#[32]⟩)) (r1:w.cell? ⟨R,off+1,none⟩=some (.string ⟨#[]⟩)) (r2:w.cell? ⟨R,off+2,none⟩=some (.string ⟨#[9]⟩)) (r3:w.cell? ⟨R,off+3,none⟩=some (.string ⟨#[]⟩)):
 Calls Tryz.prog 104 #[.pointer (some ⟨b,0,none⟩),.func (.func 105) #[.pointer (some ⟨b,0,none⟩)] #[]] w fun e w'=>e=.returned (.tuple #[])/\
  ∃ W2,zvl (w.setCell ⟨b,1,none⟩ (.int .i32 1)) W2 2/\w'=(((W2.setCell ⟨b,3,none⟩ (rpI (w.setCell ⟨b,1,none⟩ (.int .i32 1)))).setCell ⟨b,4,none⟩ (.slice none 0 0)).drew.setCell ⟨b,0,none⟩ (.int .u32 1)).setCell ⟨b,1,none⟩ (.int .i32 0):=by
 have hl:=run_call_load (P:=Tryz.prog) Tryz.func163 (by kernel_rfl) (by kernel_rfl) (by kernel_rfl) .u32 (by kernel_rfl) h0
 have hnot:∀ (x:Bool) (w:World),(Op.unary .not (.bool x)).run Tryz.prog w=.ok (.bool (!x)) w:=fun _ _=>rfl
 go_enter Tryz.func104,Tryz.ntmps104
 go_wp2_with (first
  | (go_at_call 136;refine(zNH b R off cap hRb x3 w h0 h1 h3 h4 f0 f1 f3 f4 r0 r1 r2 r3).mono ?_;rintro e w' ⟨rfl,W2,hst,rfl⟩)
  | (go_at_call 135;go_in))
 go_end0
 exact⟨rfl,W2,hst,rfl⟩
end Go.Proofs.YtampckbjinodgaaGreatDoor
namespace Go.Proofs.YtampckbjinodgaaGreatDoor
open Go Go.Am
end Go.Proofs.YtampckbjinodgaaGreatDoor
namespace Go.Proofs.YtampckbjinodgaaGreatDoor
open Go.Shelf
def lays138_ren : Go.Shelf.Ren:=⟨fun |138=>171|195=>188|218=>189|143=>101|219=>134|217=>108|225=>160|224=>161|267=>162|266=>140|314=>180|n=>n, fun |9=>9|3=>3|4=>4|5=>5|0=>0|46=>172|146=>219|51=>153|n=>n, fun |1=>0|n=>n⟩
theorem lays138 : Go.Proofs.Lays.n138 Tryz.prog lays138_ren:={
 mixed:=by kernel_rfl
 f138:=Tryz.func171.trans (congrArg some (by kernel_rfl))
 f143:=Tryz.func101.trans (congrArg some (by kernel_rfl))
 f195:=Tryz.func188.trans (congrArg some (by kernel_rfl))
 f217:=Tryz.func108.trans (congrArg some (by kernel_rfl))
 f218:=Tryz.func189.trans (congrArg some (by kernel_rfl))
 f219:=Tryz.func134.trans (congrArg some (by kernel_rfl))
 f224:=Tryz.func161.trans (congrArg some (by kernel_rfl))
 f225:=Tryz.func160.trans (congrArg some (by kernel_rfl))
 f266:=Tryz.func140.trans (congrArg some (by kernel_rfl))
 f267:=Tryz.func162.trans (congrArg some (by kernel_rfl))
 f314:=Tryz.func180.trans (congrArg some (by kernel_rfl))
 t0:=Tryz.underlying0
 a0:=Tryz.isAgg0
 z0:=Tryz.sizeOf0
 v0:=Tryz.zeroValue0
 t3:=Tryz.underlying3
 a3:=Tryz.isAgg3
 z3:=Tryz.sizeOf3
 v3:=Tryz.zeroValue3
 t4:=Tryz.underlying4
 a4:=Tryz.isAgg4
 z4:=Tryz.sizeOf4
 v4:=Tryz.zeroValue4
 t5:=Tryz.underlying5
 a5:=Tryz.isAgg5
 z5:=Tryz.sizeOf5
 v5:=Tryz.zeroValue5
 t9:=Tryz.underlying9
 a9:=Tryz.isAgg9
 z9:=Tryz.sizeOf9
 v9:=Tryz.zeroValue9
 t46:=Tryz.underlying172
 a46:=Tryz.isAgg172
 z46:=Tryz.sizeOf172
 v46:=Tryz.zeroValue172
 t51:=Tryz.underlying153
 a51:=Tryz.isAgg153
 z51:=Tryz.sizeOf153
 v51:=Tryz.zeroValue153
 t146:=Tryz.underlying219
 a146:=Tryz.isAgg219
 z146:=Tryz.sizeOf219
 v146:=Tryz.zeroValue219
 g1:=by kernel_rfl }
end Go.Proofs.YtampckbjinodgaaGreatDoor
namespace Go.Proofs.YtampckbjinodgaaGreatDoor
open Go Go.RowKit
def zbT(c:UInt8):Bool:=c==9||c==32
def zbC(l:List UInt8):List UInt8:=l.filter fun c=>!zbT c
def bkN(l:List UInt8):Nat:=(l.filter zbT).length
theorem ziU(l:List UInt8):(zbC l).length+bkN l=l.length:=by
 induction l with
 | nil=>rfl
 | cons c l ih=>
  unfold zbC bkN at *
  cases h:zbT c <;> simp[h] <;> omega
theorem zK9(l:List UInt8):l.count 9+l.count 32=bkN l:=by
 induction l with
 | nil=>rfl
 | cons c l ih=>
  unfold bkN at *
  rw[List.count_cons,List.count_cons,List.filter_cons]
  by_cases h9:c=9
  .subst h9
   have:zbT 9=true:=rfl
   rw[if_pos this]
   simp;omega
  .by_cases h32:c=32
   .subst h32
    have:zbT 32=true:=rfl
    rw[if_pos this]
    simp;omega
   .have:zbT c=false:=by simp[zbT,h9,h32]
    rw[this]
    simp[h9,h32];exact ih
theorem zH2{l:List UInt8}(h:bkN l=0):zbC l=l:=by
 refine List.filter_eq_self.2 fun c hc=>?_
 unfold bkN at h
 have h0:=List.eq_nil_of_length_eq_zero h
 cases hb:zbT c with
 | false=>rfl
 | true=>
  have:c ∈ l.filter zbT:=List.mem_filter.2 ⟨hc,hb⟩
  rw[h0]at this;cases this
structure zdI(p:Prop):Prop where
 out:p
structure zBq(w:World)(S:Nat):Prop where
 ex:∃ arr:Array Value,w.heap[S+1]?=some (.cells arr 216 (0,0))/\arr[256]?=some (.slice (some ⟨S,0,none⟩) 2 2)/\
  (∀ c:UInt8,if zbT c=true then ∃ a k,arr[c.toNat]?=some (.slice (some a) 0 k) else arr[c.toNat]?=some (.slice none 0 0))
 t0:w.cell? ⟨S,0,none⟩=some (.string ⟨#[9]⟩)
 t1:w.cell? ⟨S,1,none⟩=some (.string ⟨#[32]⟩)
theorem zPR(l:List UInt8)(i:Nat)(h:i<l.length):bkN (l.take (i+1))=bkN (l.take i)+(if zbT (l[i]'h)=true then 1 else 0):=by
 rw[List.take_add_one,List.getElem?_eq_getElem h]
 unfold bkN
 rw[List.filter_append,List.length_append]
 cases hb:zbT (l[i]'h) <;> simp[hb]
theorem zH1(l:List UInt8)(i:Nat)(h:i<l.length):zbC (l.take (i+1))=zbC (l.take i)++(if zbT (l[i]'h)=true then[] else[l[i]'h]):=by
 rw[List.take_add_one,List.getElem?_eq_getElem h]
 unfold zbC
 rw[List.filter_append]
 cases hb:zbT (l[i]'h) <;> simp[hb]
def zrx(l:List UInt8)(n:Nat):Array Value:=(l.map (fun c=>Value.int .u8 (c.toNat:Int))++List.replicate (n-l.length) (Value.int .u8 0)).toArray
def zyd(w wx:World)(n:Nat)(l:List UInt8):Prop:=Below w.heap.size w wx/\wx.heap[w.heap.size]?=some (.cells (zrx l n) 5 (0,0))
theorem zIo{l:List UInt8}{n j:Nat}(hj:j<n)(hl:l.length<=n):∃ v,(zrx l n)[j]?=some v:=by
 have:j<(zrx l n).size:=by simp[zrx];omega
 exact⟨_,Array.getElem?_eq_getElem this⟩
theorem zIn(l:List UInt8)(n:Nat)(c:UInt8)(h:l.length<n):(zrx l n).setIfInBounds l.length (.int .u8 (c.toNat:Int))=zrx (l++[c]) n:=by
 unfold zrx
 rw[List.setIfInBounds_toArray]
 congr 1
 obtain⟨k,hk⟩:∃ k,n-l.length=k+1:=⟨n-l.length-1,by omega⟩
 have hk2:n-(l++[c]).length=k:=by simp;omega
 rw[hk,hk2,List.replicate_succ,List.set_append_right _ _ (by simp)]
 simp
theorem zE5(l:List UInt8):(zrx l l.length).toList=l.map fun c=>Value.int .u8 (c.toNat:Int):=by simp[zrx]
theorem zH3(l:List UInt8)(i:Nat):(zbC (l.take i)).length<=(zbC l).length:=by
 have h:zbC l=zbC (l.take i)++zbC (l.drop i):=by
  unfold zbC
  rw[<-List.filter_append,List.take_append_drop]
 rw[h,List.length_append];omega
theorem zNL{w wx:World}{l:List UInt8}(h:zyd w wx l.length l):(convert 34 9 (.slice (some ⟨w.heap.size,0,none⟩) l.length l.length)).run Tryz.prog wx=.ok (.string ⟨l.toArray⟩) wx:=by
 rw[Go.Am.run_convert_bytes (by kernel_rfl) _ ⟨_,_,_,rfl⟩]
 refine Go.Am.run_bytesToString w.heap.size 0 l.length l fun i d hd=>?_
 rw[Nat.zero_add,zag h.2,<-Array.getElem?_toList,zE5,List.getElem?_map,hd]
 rfl
theorem zyd.put{w wx:World}{l:List UInt8}{n:Nat}(h:zyd w wx n l)(hl:l.length<n)(c:UInt8):zyd w (wx.setCell ⟨w.heap.size,l.length,none⟩ (.int .u8 (c.toNat:Int))) n (l++[c]):=by
 refine⟨h.1.setCell (Nat.le_refl _) _,?_⟩
 rw[setCell_eq_setRow wx w.heap.size l.length _ _ (0,0) _ h.2,setRow_heap wx _ _ _ _ _ h.2,zIn l n c hl]
theorem zsx{w wx:World}(h:wx.heap=w.heap)(a:Addr):wx.cell? a=w.cell? a:=by unfold World.cell?;rw[h]
set_option maxRecDepth 100000 in
set_option maxHeartbeats 8000000 in
theorem zRz(S:Nat)(s:ByteArray)(hs:s.size<=1000000)(w:World)(hR:zBq w S):
 Calls Tryz.prog 234 #[.pointer (some ⟨S+1,0,none⟩),.string s] w fun e w'=>e=.returned (.string ⟨(zbC s.data.toList).toArray⟩)/\Below w.heap.size w w':=by
 obtain⟨⟨arr,q1,q2,q3⟩,t0,t1⟩:=hR
 have z256:w.cell? ⟨S+1,256,none⟩=some (.slice (some ⟨S,0,none⟩) 2 2):=by rw[zag q1];exact q2
 have hnot:∀ (x:Bool) (w:World),(Op.unary .not (.bool x)).run Tryz.prog w=.ok (.bool (!x)) w:=fun _ _=>rfl
 obtain⟨K,hK⟩:∃ K:UInt8->Nat,∀ c,s.data.toList.count c=K c:=⟨fun c=>s.data.toList.count c,fun _=>rfl⟩
 obtain⟨N,hN⟩:∃ N,bkN s.data.toList=N:=⟨_,rfl⟩
 have hcnt:∀ (c:UInt8) (w:World),Calls Tryz.prog 171 #[.string s,.string ⟨#[c]⟩] w fun e w'=>e=.returned (.int .i64 (K c))/\w'=w:=fun c w=>by rw[<-hK];exact Any.strings_Count_one lays138 s c w
 have hbk:K 9+K 32=N:=by rw[<-hK,<-hK,<-hN];exact zK9 _
 have hbl:(zbC s.data.toList).length+N=s.size:=by rw[<-hN,ziU,Array.length_toList];rfl
 have z9:∃ a k,w.cell? ⟨S+1,9,none⟩=some (.slice (some a) 0 k):=by
  have h:=q3 9;rw[if_pos (show zbT 9=true from rfl)]at h;rw[zag q1];exact h
 have z32:∃ a k,w.cell? ⟨S+1,32,none⟩=some (.slice (some a) 0 k):=by
  have h:=q3 32;rw[if_pos (show zbT 32=true from rfl)]at h;rw[zag q1];exact h
 obtain⟨a9,k9,z9⟩:=z9
 obtain⟨a32,k32,z32⟩:=z32
 have e9:((⟨#[9]⟩:ByteArray)[0]'(by decide)).toNat=9:=rfl
 have e32:((⟨#[32]⟩:ByteArray)[0]'(by decide)).toNat=32:=rfl
 go_enter Tryz.func234,Tryz.ntmps234
 go_upto_if 26 with fail
 go_cut [5,6,8,9,10,11] from 16 (fun s5 s6 s8 s9 s10 s11 wc=>s5=.int .i64 ((s.size:Int)-N)/\s6=.bool (decide (N≠0))/\wc.heap=w.heap/\Below w.heap.size w wc)
 case first=>
  obtain⟨d16,-⟩|⟨d16,-⟩:(decide ((16:Int)<=(s.size:Int))=true/\True)\/(decide ((16:Int)<=(s.size:Int))=false/\True):=by
   by_cases h:(16:Int)<=(s.size:Int)
   .exact .inl ⟨decide_eq_true h,trivial⟩
   .exact .inr ⟨decide_eq_false h,trivial⟩
  .rw [d16]
   clear d16
   go_wp2
   go_loopg [5,6,8,9,32] 2 (fun g s5 s6 s8 s9 s32 wx=>(wx.heap=w.heap/\Below w.heap.size w wx)/\((g=2/\s32=.int .i64 0/\s5=.int .i64 s.size/\s6=.bool false)\/(g=1/\s32=.int .i64 1/\s5=.int .i64 ((s.size:Int)-K 9)/\s6=.bool (decide (K 9≠0)))\/(g=0/\s32=.int .i64 2/\s5=.int .i64 ((s.size:Int)-N)/\s6=.bool (decide (N≠0)))))
   case atStart=>exact⟨⟨rfl,Below.refl _ _⟩,.inl ⟨rfl,rfl,rfl,rfl⟩⟩
   case round=>
    obtain⟨⟨hh,hB⟩,hrel⟩:=hrel
    have t0':=(zsx hh ⟨S,0,none⟩).trans t0
    have t1':=(zsx hh ⟨S,1,none⟩).trans t1
    have z9':=(zsx hh ⟨S+1,9,none⟩).trans z9
    have z32':=(zsx hh ⟨S+1,32,none⟩).trans z32
    rcases hrel with⟨rfl,rfl,rfl,rfl⟩|⟨rfl,rfl,rfl,rfl⟩|⟨rfl,rfl,rfl,rfl⟩
    .obtain ⟨hz,hk⟩|⟨hz,hk⟩:((((K 9:Nat):Int) != 0)=false/\zdI (K 9=0))\/((((K 9:Nat):Int) != 0)=true/\zdI (K 9≠0)):=by
      by_cases h9:K 9=0
      .exact .inl ⟨by simp[h9],⟨h9⟩⟩
      .exact .inr ⟨by simp[h9],⟨h9⟩⟩
     .go_wp2_with (go_at_call 171;refine(hcnt 9 _).mono ?_;rintro e w' ⟨rfl,rfl⟩)
      go_roundg 1
      case measure=>omega
      case rel=>
       have h9:=hk.out
       exact⟨⟨hh,hB⟩,.inr (.inl ⟨rfl,rfl,by rw[h9];simp,by rw[h9];rfl⟩)⟩
     .go_wp2_with (go_at_call 171;refine(hcnt 9 _).mono ?_;rintro e w' ⟨rfl,rfl⟩)
      go_region
      go_wp2
      go_roundg 1
      case measure=>omega
      case rel=>
       have h9:=hk.out
       exact⟨⟨hh,hB.drew⟩,.inr (.inl ⟨rfl,rfl,by congr 1,by simp[h9]⟩)⟩
    .obtain ⟨hz,hk⟩|⟨hz,hk⟩:((((K 32:Nat):Int) != 0)=false/\zdI (K 32=0))\/((((K 32:Nat):Int) != 0)=true/\zdI (K 32≠0)):=by
      by_cases h9:K 32=0
      .exact .inl ⟨by simp[h9],⟨h9⟩⟩
      .exact .inr ⟨by simp[h9],⟨h9⟩⟩
     .go_wp2_with (go_at_call 171;refine(hcnt 32 _).mono ?_;rintro e w' ⟨rfl,rfl⟩)
      go_roundg 0
      case measure=>omega
      case rel=>
       have h9:=hk.out
       have hN9:N=K 9:=by omega
       exact⟨⟨hh,hB⟩,.inr (.inr ⟨rfl,rfl,by rw[hN9],by rw[hN9];simp⟩)⟩
     .go_wp2_with (go_at_call 171;refine(hcnt 32 _).mono ?_;rintro e w' ⟨rfl,rfl⟩)
      go_region
      go_wp2
      go_roundg 0
      case measure=>omega
      case rel=>
       have h9:=hk.out
       have hN0:N≠0:=by omega
       exact⟨⟨hh,hB.drew⟩,.inr (.inr ⟨rfl,rfl,by congr 1;omega,by simp[hN0]⟩)⟩
    .go_wp2
     go_meet
     case rel=>exact⟨rfl,rfl,hh,hB⟩
  .rw [d16]
   clear d16
   go_wp2
   go_loopg [5,6,10,11] s.size (fun g s5 s6 s10 s11 wx=>(wx.heap=w.heap/\Below w.heap.size w wx)/\∃ i m:Nat,i+g=s.size/\bkN (s.data.toList.take i)=m/\s10=.int .i64 i/\s5=.int .i64 ((s.size:Int)-m)/\s6=.bool (decide (m≠0)))
   case atStart=>exact⟨⟨rfl,Below.refl _ _⟩,0,0,by omega,rfl,rfl,by simp,rfl⟩
   case round=>
    obtain⟨⟨hh,hB⟩,i,m,hi,hm,rfl,rfl,rfl⟩:=hrel
    have hm:=zdI.mk hm
    cases gk with
    | zero=>
     have hi2:i=s.size:=by omega
     subst hi2
     go_wp2
     go_meet
     case rel=>
      have hmN:m=N:=by
       rw[<-hm.out,<-hN,List.take_of_length_le (by rw[Array.length_toList];exact Nat.le_refl _)]
      exact⟨by rw[hmN],by rw[hmN],hh,hB⟩
    | succ g=>
     have hi2:i<s.size:=by omega
     obtain⟨c,hc⟩:∃ c:UInt8,s[i]=c:=⟨_,rfl⟩
     have hc256:c.toNat<256:=c.toNat_lt
     have hli:i<s.data.toList.length:=by rw[Array.length_toList];exact hi2
     have hcl:s.data.toList[i]=c:=by rw[Array.getElem_toList];exact hc
     have hstep:=zdI.mk (zPR s.data.toList i hli)
     have hq:=q3 c
     cases hb:zbT c with
     | true=>
      rw[hb,if_pos rfl]at hq
      obtain⟨a,k,hq⟩:=hq
      have zc:wr.cell? ⟨S+1,c.toNat,none⟩=some (.slice (some a) 0 k):=by rw[zsx hh,zag q1];exact hq
      have hne:∀ w:World,(binOp .neq 34 (.slice (some a) 0 k) (.slice none 0 0)).run Tryz.prog w=.ok (.bool true) w:=fun w=>rfl
      go_wp2
      go_roundg g
      case measure=>omega
      case rel=>
       have hs2:=hstep.out
       rw[hcl,hb,if_pos rfl,hm.out]at hs2
       have hml:=ziU (s.data.toList.take i)
       rw[hm.out,List.length_take]at hml
       exact⟨⟨hh,hB⟩,i+1,m+1,by omega,hs2,by simp,by congr 1;unfold wrap64;omega,by simp⟩
     | false=>
      rw[hb,if_neg (by decide)]at hq
      have zc:wr.cell? ⟨S+1,c.toNat,none⟩=some (.slice none 0 0):=by rw[zsx hh,zag q1];exact hq
      have hne:∀ w:World,(binOp .neq 34 (.slice none 0 0) (.slice none 0 0)).run Tryz.prog w=.ok (.bool false) w:=fun w=>rfl
      go_wp2
      go_roundg g
      case measure=>omega
      case rel=>
       have hs2:=hstep.out
       rw[hcl,hb,if_neg (by decide),hm.out]at hs2
       exact⟨⟨hh,hB⟩,i+1,m,by omega,hs2,by simp,rfl,rfl⟩
 case rest=>
  obtain⟨rfl,rfl,hh,hB⟩:=hcut
  have hsz:wc.heap.size=w.heap.size:=by rw[hh]
  obtain⟨n,hn⟩:∃ n,n=s.size-N:=⟨_,rfl⟩
  have hn2:(s.size:Int)-N=n:=by omega
  have hmk:∀ w:World,(Instr.makeSlice 34 (.int .i64 n) (.int .i64 n)).run Tryz.prog w=.ok (.slice (some ⟨w.heap.size,0,none⟩) n n) (w.alloc (.cells (madeCells #[.int .u8 0] n) 5)):=fun w=>by
   have h:=run_make (P:=Tryz.prog) w 34 5 Tryz.t5 (.int .u8 0) Tryz.underlying34 (by kernel_rfl) (by kernel_rfl) .i64 .i64 n n (by omega) (by omega) (by show((1:Nat):Int)*n<=_;omega) (by omega)
   rw[h]
   simp only[Int.toNat_natCast]
   show Result.ok _ (w.alloc (.cells (madeCells #[.int .u8 0] (n*1)) 5))=_
   rw[Nat.mul_one]
  rw[hn2]
  have hhH:=zdI.mk hh
  have hszH:=zdI.mk hsz
  clear hh hsz
  have hnH:=zdI.mk hn
  have hnH2:=zdI.mk hn2
  clear hn hn2
  by_cases h0:N=0
  .have hd:decide (N≠0)=false:=by simp[h0]
   rw[hd]
   go_wp2
   go_ret
   have e:(⟨(zbC s.data.toList).toArray⟩:ByteArray)=s:=by rw[zH2 (by rw[hN];exact h0),Array.toArray_toList]
   rw[e]
   exact⟨rfl,hB⟩
  .have hd:decide (N≠0)=true:=by simp[h0]
   rw[hd]
   have h0:=zdI.mk h0
   go_wp2
   go_loopg [13,14,15] s.size (fun g s13 s14 s15 wx=>∃ (i:Nat) (L:List UInt8),i+g=s.size/\zdI (zbC (s.data.toList.take i)=L)/\zyd wc wx n L/\s14=.int .i64 (i:Int)/\s13=.int .i64 (L.length:Int))
   case atStart=>
    refine⟨0,[],by omega,⟨rfl⟩,⟨(Below.refl _ _).alloc (Nat.le_refl _) _,?_⟩,rfl,rfl⟩
    rw[heap_alloc_new wc]
    congr 2
    unfold zrx
    apply Array.ext'
    rw[toList_madeCells_one]
    simp
   case round=>
    obtain⟨i,L,hi,hL,hbuf,rfl,rfl⟩:=hrel
    have hnn:=hnH.out
    cases gk with
    | zero=>
     have hi2:i=s.size:=by omega
     subst hi2
     have hLL:=hL.out
     rw[List.take_of_length_le (by rw[Array.length_toList];exact Nat.le_refl _)]at hLL
     obtain rfl:n=L.length:=by rw[<-hLL];omega
     have hcv:=zNL hbuf
     clear hnn hnH hnH2 hmk
     go_wp2
     go_ret
     rw[hLL]
     exact⟨rfl,hB.trans (hbuf.1.mono (by rw[hszH.out];exact Nat.le_refl _))⟩
    | succ g=>
     have hi2:i<s.size:=by omega
     obtain⟨c,hc⟩:∃ c:UInt8,s[i]=c:=⟨_,rfl⟩
     have hc256:c.toNat<256:=c.toNat_lt
     have hli:i<s.data.toList.length:=by rw[Array.length_toList];exact hi2
     have hcl:s.data.toList[i]=c:=by rw[Array.getElem_toList];exact hc
     have hstep:=zdI.mk (zH1 s.data.toList i hli)
     have hle:=zH3 s.data.toList (i+1)
     have hle0:=zH3 s.data.toList i
     rw[hL.out]at hle0
     have hLn:L.length<=n:=by omega
     have hLn2:(L.length:Int)<=n:=by omega
     have hq:=q3 c
     have hold:=hbuf.1
     have k1:wr.heap[S+1]?=some (.cells arr 216 (0,0)):=by
      rw[hold.block _ (by rw[hszH.out];exact(Array.getElem?_eq_some_iff.1 q1).1),hhH.out];exact q1
     cases hb:zbT c with
     | true=>
      rw[hb,if_pos rfl]at hq
      obtain⟨a,k,hq⟩:=hq
      have zc:wr.cell? ⟨S+1,c.toNat,none⟩=some (.slice (some a) 0 k):=by rw[zag k1];exact hq
      have hne:∀ w:World,(binOp .neq 34 (.slice (some a) 0 k) (.slice none 0 0)).run Tryz.prog w=.ok (.bool true) w:=fun w=>rfl
      have hcp:∀ (p:Option Addr) (d q:Nat) (w:World),(Builtin.copy_ #[34,34] 3 #[.slice p d q,.slice (some a) 0 k]).run Tryz.prog w=.ok (.int .i64 0) w:=fun p d q w=>run_copy_none (P:=Tryz.prog) w 34 34 3 5 p (some a) d q 0 k Tryz.underlying34 (by kernel_rfl) (by simp)
      have hc256i:((c.toNat:Nat):Int)<256:=by omega
      have hLB:L.length<=1000000:=by omega
      clear hnn hnH hnH2 hle hle0
      rcases Nat.eq_or_lt_of_le hLn with hnl|hnl
      .obtain rfl:n=L.length:=hnl.symm
       go_wp2
       go_region
       go_wp2
       go_roundg g
       case measure=>omega
       case rel=>
        have hs2:=hstep.out
        rw[hcl,hb,if_pos rfl,hL.out,List.append_nil]at hs2
        exact⟨i+1,L,by omega,⟨hs2⟩,⟨hbuf.1.drew,hbuf.2⟩,by simp,by first|rfl|(congr 1;unfold wrap64;omega)|congr 1⟩
      .have hnl2:¬ n=L.length:=by omega
       clear hnl
       go_wp2
       go_region
       go_wp2
       go_roundg g
       case measure=>omega
       case rel=>
        have hs2:=hstep.out
        rw[hcl,hb,if_pos rfl,hL.out,List.append_nil]at hs2
        exact⟨i+1,L,by omega,⟨hs2⟩,⟨hbuf.1.drew,hbuf.2⟩,by simp,by first|rfl|(congr 1;unfold wrap64;omega)|congr 1⟩
     | false=>
      rw[hb,if_neg (by decide)]at hq
      have zc:wr.cell? ⟨S+1,c.toNat,none⟩=some (.slice none 0 0):=by rw[zag k1];exact hq
      have hne:∀ w:World,(binOp .neq 34 (.slice none 0 0) (.slice none 0 0)).run Tryz.prog w=.ok (.bool false) w:=fun w=>rfl
      have hs2:=hstep.out
      rw[hcl,hb,if_neg (by decide),hL.out]at hs2
      rw[hs2,List.length_append]at hle
      have hlt:L.length<n:=by simp at hle;omega
      have hlt2:(L.length:Int)<n:=by omega
      obtain⟨v,hv⟩:=zIo hlt hLn
      have zb:wr.cell? ⟨wc.heap.size,L.length,none⟩=some v:=by rw[zag hbuf.2];exact hv
      have yb:=zcg hbuf.2 L.length
      have hput:=zdI.mk (hbuf.put hlt c)
      have hs3:=zdI.mk hs2
      have hLB:L.length<=1000000:=by omega
      clear hnn hnH hnH2 hle hle0 hs2 hv
      go_wp2
      go_roundg g
      case measure=>omega
      case rel=>exact⟨i+1,L++[c],by omega,hs3,hput.out,by simp,by congr 1;rw[List.length_append];simp only[List.length_cons,List.length_nil];first|rfl|omega|(unfold wrap64;omega)⟩
end Go.Proofs.YtampckbjinodgaaGreatDoor
namespace Go.Proofs.YtampckbjinodgaaGreatDoor
open Go Go.Am
end Go.Proofs.YtampckbjinodgaaGreatDoor
namespace Go.Proofs.YtampckbjinodgaaGreatDoor
open Go Go.RowKit
structure zbO(b:Nat)(w w':World):Prop where
 old:∀ c,c<w.heap.size->c≠b->w'.heap[c]?=w.heap[c]?
 size:w.heap.size<=w'.heap.size
 os:w'.os=w.os
 tape:w'.tape=w.tape
 output:w'.output=w.output
theorem zbO.setCell{b:Nat}{w w':World}(h:zbO b w w')(q:Nat)(v:Value):zbO b w (w'.setCell ⟨b,q,none⟩ v):=
 ⟨fun c hc hne=>(Below.heap_setCell w' ⟨b,q,none⟩ v c hne).trans (h.old c hc hne),by
  have:=((Below.refl 0 w').setCell (p:=⟨b,q,none⟩) (Nat.zero_le _) v).size
  exact Nat.le_trans h.size this,h.os,h.tape,h.output⟩
theorem zbO.drew{b:Nat}{w w':World}(h:zbO b w w'):zbO b w w'.drew:=⟨h.old,h.size,h.os,h.tape,h.output⟩
theorem zbO.below{b:Nat}{w w1 w':World}(h:zbO b w w1)(k:Below w1.heap.size w1 w'):zbO b w w':=
 ⟨fun c hc hne=>(k.block c (Nat.lt_of_lt_of_le hc h.size)).trans (h.old c hc hne),Nat.le_trans h.size k.size,k.os.trans h.os,k.tape.trans h.tape,k.output.trans h.output⟩
theorem zvl.at{w w2:World}(h:zvl w w2 2):zBq w2 w.heap.size:=by
 obtain⟨hB,hsz,arr,c0,c1,q1,q2,q3,q4,q5,q6,q7⟩:=h
 refine⟨⟨arr,q1,q4,fun c=>?_⟩,?_,?_⟩
 .have hc:=c.toNat_lt
  have h:=q5 c.toNat hc
  by_cases hb:zbT c=true
  .rw [if_pos hb]
   have hc2:(c.toNat=9/\1<=2)\/(c.toNat=32/\2<=2):=by
    unfold zbT at hb
    rw[Bool.or_eq_true,beq_iff_eq,beq_iff_eq]at hb
    rcases hb with rfl|rfl
    .exact .inl ⟨rfl,by decide⟩
    .exact .inr ⟨rfl,by decide⟩
   rw[if_pos hc2]at h;exact h
  .rw [if_neg hb]
   have hc2:¬ ((c.toNat=9/\1<=2)\/(c.toNat=32/\2<=2)):=by
    rintro(⟨h1,_⟩|⟨h1,_⟩)
    .have:c=9:=UInt8.toNat_inj.1 h1
     subst this;exact hb rfl
    .have:c=32:=UInt8.toNat_inj.1 h1
     subst this;exact hb rfl
   rw[if_neg hc2]at h;exact h
 .rw [zag q3,q6 (by decide)];rfl
 .rw [zag q3,q7 (by decide)];rfl
theorem zBq.other{w w':World}{S b:Nat}(h:zBq w S)(h0:S≠b)(h1:S+1≠b)(hk:∀ c,c≠b->w'.heap[c]?=w.heap[c]?):zBq w' S:=by
 obtain⟨⟨arr,q1,q2,q3⟩,t0,t1⟩:=h
 have e:∀ q,w'.cell? ⟨S,q,none⟩=w.cell? ⟨S,q,none⟩:=fun q=>World.cell?_of_block (w:=w) (hk S h0)
 exact⟨⟨arr,(hk _ h1).trans q1,q2,q3⟩,(e 0).trans t0,(e 1).trans t1⟩
set_option maxRecDepth 100000 in
set_option maxHeartbeats 8000000 in
theorem zz6(b R off cap:Nat)(hRb:R≠b)(x3:Value)(s:ByteArray)(hs:s.size<=1000000)(w:World)(h0:w.cell? ⟨b,0,none⟩=some (.int .u32 0))(h1:w.cell? ⟨b,1,none⟩=some (.int .i32 0))(h3:w.cell? ⟨b,3,none⟩=some x3)
 (h4:w.cell? ⟨b,4,none⟩=some (.slice (some ⟨R,off,none⟩) 4 cap)) (f0:w.frozen? ⟨b,0,none⟩=false) (f1:w.frozen? ⟨b,1,none⟩=false) (f3:w.frozen? ⟨b,3,none⟩=false) (f4:w.frozen? ⟨b,4,none⟩=false)
 (r0:w.cell? ⟨R,off,none⟩=some (.string ⟨#[32]⟩)) (r1:w.cell? ⟨R,off+1,none⟩=some (.string ⟨#[]⟩)) (r2:w.cell? ⟨R,off+2,none⟩=some (.string ⟨#[9]⟩)) (r3:w.cell? ⟨R,off+3,none⟩=some (.string ⟨#[]⟩)):
 Calls Tryz.prog 71 #[.pointer (some ⟨b,0,none⟩),.string s] w fun e w'=>e=.returned (.string ⟨(zbC s.data.toList).toArray⟩)/\zbO b w w':=by
 have hmeth:∀ (p:Option Addr) (W:World),(method 379 217 (.pointer p) "Replace").run Tryz.prog W=.ok (234,.pointer p) W:=fun p W=>by kernel_rfl
 have hmf:∀ (fn:Fn) (first cap:Array Value) (w:World),(Instr.makeFunc fn first cap).run Tryz.prog w=.ok (.func fn first cap) w:=fun _ _ _ _=>rfl
 have hb:b<w.heap.size:=World.block_lt_of_cell? w ⟨b,0,none⟩ h0
 have hdo:∃ Q:World->Prop,(∀ W,Q W->W.cell? ⟨b,3,none⟩=some (.iface 217 (.pointer (some ⟨w.heap.size+1,0,none⟩)))/\zBq W w.heap.size/\zbO b w W)/\
  Calls Tryz.prog 104 #[.pointer (some ⟨b,0,none⟩),.func (.func 105) #[.pointer (some ⟨b,0,none⟩)] #[]] w fun e w'=>e=.returned (.tuple #[])/\Q w':=by
  refine⟨fun W=>W.cell? ⟨b,3,none⟩=some (.iface 217 (.pointer (some ⟨w.heap.size+1,0,none⟩)))/\zBq W w.heap.size/\zbO b w W,fun W h=>h,?_⟩
  refine(zTt b R off cap hRb x3 w h0 h1 h3 h4 f0 f1 f3 f4 r0 r1 r2 r3).mono ?_
  rintro e w' ⟨rfl,W2,hst,rfl⟩
  have hsz:(w.setCell ⟨b,1,none⟩ (.int .i32 1)).heap.size=w.heap.size:=by
   obtain⟨cur,ty,fr,hh⟩:∃ cur ty fr,w.heap[b]?=some (.cells cur ty fr):=by
    unfold World.cell? at h0
    dsimp only at h0
    cases hq:w.heap[b]? with
    | none=>rw[hq]at h0;cases h0
    | some o=>cases o <;> rw[hq]at h0 <;> first|exact⟨_,_,_,rfl⟩|cases h0
   rw[setCell_eq_setRow w b 1 cur ty fr _ hh];simp[World.setRow]
  have hat:=hst.at
  rw[hsz]at hat
  have k0:zbO b w (w.setCell ⟨b,1,none⟩ (.int .i32 1)):=zbO.setCell ⟨fun _ _ _=>rfl,Nat.le_refl _,rfl,rfl,rfl⟩ 1 _
  have k2:=k0.below hst.1
  have hc3:(w.setCell ⟨b,1,none⟩ (.int .i32 1)).cell? ⟨b,3,none⟩=some x3:=(World.cell?_setCell_other _ ⟨b,1,none⟩ ⟨b,3,none⟩ _ (by simp)).trans h3
  have hc3':=yD hst.1 hc3
  refine⟨rfl,?_,?_,?_⟩
  .refine (World.cell?_setCell_other _ ⟨b,1,none⟩ ⟨b,3,none⟩ _ (by simp)).trans ((World.cell?_setCell_other _ ⟨b,0,none⟩ ⟨b,3,none⟩ _ (by simp)).trans ?_)
   rw[World.cell?_drew]
   refine(World.cell?_setCell_other _ ⟨b,4,none⟩ ⟨b,3,none⟩ _ (by simp)).trans ?_
   rw[World.cell?_setCell_same W2 _ _ hc3',rpI,hsz]
  .refine hat.other (b:=b) (by omega) (by omega) fun c hc=>?_
   rw[Below.heap_setCell _ _ _ _ hc,Below.heap_setCell _ _ _ _ hc]
   show((W2.setCell ⟨b,3,none⟩ _).setCell ⟨b,4,none⟩ _).heap[c]?=_
   rw[Below.heap_setCell _ _ _ _ hc,Below.heap_setCell _ _ _ _ hc]
  .exact ((((k2.setCell 3 _).setCell 4 _).drew.setCell 0 _).setCell 1 _)
 obtain⟨Q,hQ,hdo⟩:=hdo
 go_enter Tryz.func71,Tryz.ntmps71
 go_wp2_with (first
  | (go_at_call 104;refine hdo.mono ?_;rintro e W ⟨rfl,hW⟩;obtain⟨c3,hat,hkeep⟩:=hQ W hW)
  | (go_at_call 234;refine(zRz w.heap.size s hs W hat).mono ?_;rintro e W' ⟨rfl,hB⟩))
 go_ret
 exact⟨rfl,hkeep.below hB⟩
end Go.Proofs.YtampckbjinodgaaGreatDoor
namespace Go.Proofs.YtampckbjinodgaaGreatDoor
open Go Go.Am
end Go.Proofs.YtampckbjinodgaaGreatDoor
namespace Go.Proofs.YtampckbjinodgaaGreatDoor
open Go Go.Am
abbrev zpn:List (List UInt8):=[[32],[],[9],[]]
theorem zRA{M:Mem}{w:World}{g cap:Nat}{vs:List Value}(hA:zb1 M w 9 false 1 4 vs (some g) cap)(hR:∀ i j,i<(Rows.dat .str zpn).n->j<1->∃ v,vs[i*1+j]?=some v/\zR M ((Rows.dat .str zpn).f i j) v):
 w.cell? ⟨g,0,none⟩=some (.string ⟨#[32]⟩)/\w.cell? ⟨g,0+1,none⟩=some (.string ⟨#[]⟩)/\w.cell? ⟨g,0+2,none⟩=some (.string ⟨#[9]⟩)/\w.cell? ⟨g,0+3,none⟩=some (.string ⟨#[]⟩):=by
 have key:∀ (i:Nat) (l:List UInt8),i<4->(Rows.dat .str zpn).f i 0=.str l->w.cell? ⟨g,0+i,none⟩=some (.string ⟨l.toArray⟩):=fun i l hi hl=>by
  obtain⟨v,hv,hr⟩:=hR i 0 hi (by decide)
  rw[hl]at hr
  have e0:i*1+0=i:=by omega
  rw[e0]at hv
  rw[Nat.zero_add,hA.cell i v hv]
  cases hr;rfl
 exact⟨key 0 [32] (by decide) rfl,key 1 [] (by decide) rfl,key 2 [9] (by decide) rfl,key 3 [] (by decide) rfl⟩
theorem zMu(t:List UInt8)(ht:t.length<=1000000):
 FnR Tryz.prog 71 [.ref 70000 0,.p (.str t)] [(70000,.cells [.p (.int .u32 0),.p (.int .i32 0),.p (.int .u32 0),.p (.plain .nilIface),.arr 70001]),(70001,.larr 9 false 1 (.dat .str zpn))] [] (.p (.str (zbC t))) []:=by
 intro γ M w vs hO hnone hM hvs
 obtain⟨b,vs0,e,hg,hh,hsz,hrel,hmem⟩:=hO.ob 70000 _ rfl
 obtain⟨a,cap,vs1,hg1,hR,hA⟩:=hO.ob 70001 _ rfl
 cases hvs with|cons hx hvs=>
 cases hvs with|cons hy hvs=>
 cases hvs
 obtain⟨b',hg',rfl⟩:=hx.ref_inv
 rw[hg]at hg';cases hg'
 cases hy with|p _ _ hy=>
 cases hy with|str _ hlen=>
 have hc:∀ j,j<5->w.cell? ⟨b,j,none⟩=some (vs0.getD j undef):=fun j hj=>by
  rw[zag hh j,Array.getD_eq_getD_getElem?,Array.getElem?_eq_getElem (by rw[hsz];exact hj)];rfl
 have e0:vs0.getD 0 undef=.int .u32 0:=by
  have h:=(hrel 0 (by decide)).1
  generalize vs0.getD 0 undef=v at h
  cases h with|p _ _ h=>cases h;rfl
 have e1:vs0.getD 1 undef=.int .i32 0:=by
  have h:=(hrel 1 (by decide)).1
  generalize vs0.getD 1 undef=v at h
  cases h with|p _ _ h=>cases h;rfl
 have h4:zp γ M (.arr 70001) (vs0.getD 4 undef):=(hrel 4 (by decide)).1
 obtain⟨a',k',n',cap',hg1',e4⟩:=h4.arr_inv
 rw[hg1]at hg1';cases hg1'
 cases a with
 | none=>exact absurd hA.none.1 (by decide)
 | some g=>
  have e4:vs0.getD 4 undef=.slice (some ⟨g,0,none⟩) 4 cap:=e4
  have hRb:g≠b:=fun e=>by
   subst e
   have:=hO.sep 70000 70001 _ _ g (by simp[zm]) (by simp[zm]) hg hg1 rfl rfl
   cases this
  obtain⟨r0,r1,r2,r3⟩:=zRA hA hR
  have hlen2:t.toArray.size=t.length:=by simp
  have hcon:=zz6 b g 0 cap hRb (vs0.getD 3 undef) ⟨t.toArray⟩ (by show t.toArray.size<=_;rw[hlen2];exact ht) w (by rw[hc 0 (by decide),e0]) (by rw[hc 1 (by decide),e1]) (hc 3 (by decide)) (by rw[hc 4 (by decide),e4])
   (zcg hh 0) (zcg hh 1) (zcg hh 3) (zcg hh 4) r0 r1 r2 r3
  refine Calls.mono hcon fun e' w' ⟨he,hk⟩=>?_
  have hst:(⟨t.toArray⟩:ByteArray).data.toList=t:=rfl
  rw[hst]at he
  rw[he]
  have hbl:=ziU t
  refine zca hM (by unfold maxLen;omega) (fun c hc hno=>hk.old c hc fun e=>hno (by subst e;exact⟨70000,_,by simp[zm],hg,rfl⟩)) (fun c o v hv=>?_) hk.size hk.os hk.tape hk.output
  have hcb:c≠b:=fun e=>by subst e;rw[hmem]at hv;cases hv
  have hlt:c<w.heap.size:=World.block_lt_of_cell? w ⟨c,o,none⟩ (hM c o v hv)
  exact World.cell?_of_block (w:=w) (hk.old c hlt hcb)
def zt8:yM:=⟨[false,true],fun args ib=>match args,ib with
 | [.ref 70000 0,.p (.str t)],[(70000,.cells [.p (.int .u32 0),.p (.int .i32 0),.p (.int .u32 0),.p (.plain .nilIface),.arr 70001]),(70001,.larr 9 false 1 R)]=>
  match zA .str (.list 1 R)with
  | some [[32],[],[9],[]]=>some (([],.p (.str (zbC t))),([],some (t.length<=1000000)))
  | _=>none
 | _,_=>none⟩
end Go.Proofs.YtampckbjinodgaaGreatDoor
namespace Go.Proofs.YtampckbjinodgaaGreatDoor
open Go Go.Am
theorem yB{a:Ec}{k:Nat}{R:Go.Am.Rows}{l:List (Elt a)}(h:zA a (.list k R)=some l):R=.dat a l/\k=wid a:=by
 cases R with
 | fn n f=>cases h
 | dat a' l'=>
  simp only[zA]at h
  split at h
  .rename_i he hk heq
   subst he;cases h
   exact⟨rfl,Nat.eq_of_beq_eq_true hk⟩
  .cases h
abbrev yl:=List UInt8×List UInt8×List UInt8
abbrev zbZ:Ec:=.pair .str (.pair .str .str)
abbrev rdN(W O:Nat)(s:List UInt8)(at_:Int)(ws:List (List UInt8))(an:List UInt8)(hs:Bool)(out:List yl):List (Nat×AObj):=
 [(70000,.cells [.p (.str s),.p (.int .i64 at_),.arr W,.p (.str an),.p (.bool hs),.arr O]),(W,.larr 9 false 1 (.dat .str ws)),(O,.larr 93 false 3 (.dat zbZ out))]
abbrev rdO:=rdN 70001 70002
abbrev zlJ(s:List UInt8)(at_:Int):Prop:=s.length<=1000000/\0<=at_/\at_<=s.length
def wiF:List UInt8->List UInt8×Nat
 | []=>([],0)
 | [c]=>if c=34 then([],1) else([c],1)
 | c::d::r=>if c=34 then([],1) else if c=92 then(d::(wiF r).1,(wiF r).2+2) else(c::(wiF (d::r)).1,(wiF (d::r)).2+1)
def rmF:Nat->List UInt8->Nat
 | 0,_=>0
 | _+1,[]=>0
 | _+1,[_]=>1
 | k+1,c::d::r=>if c=40 then rmF (k+2) (d::r)+1 else if c=41 then rmF k (d::r)+1 else if c=92 then rmF (k+1) r+2 else rmF (k+1) (d::r)+1
theorem zap{s:List UInt8}{i:Nat}{c:UInt8}{r:List UInt8}(h:s.drop i=c::r):s.getD i 0=c/\s.drop (i+1)=r/\i<s.length:=by
 refine⟨?_,by rw[<-List.tail_drop,h];rfl,?_⟩
 .rw [List.getD_eq_getElem?_getD,<-List.head?_drop,h];rfl
 .rcases Nat.lt_or_ge i s.length with h1|h1
  .exact h1
  .rw [List.drop_eq_nil_of_le h1]at h;cases h
theorem ym(c:UInt8)(k:Nat)(q:Int)(d:UInt8)(hq:q=k)(hd:d.toNat=k):(((c.toNat:Nat):Int)==q)=decide (c=d):=by
 rw[Bool.eq_iff_iff,beq_iff_eq,decide_eq_true_iff,hq]
 constructor
 .intro h
  apply UInt8.toNat_inj.1
  omega
 .rintro rfl
  omega
theorem zuz(c:UInt8):UInt8.ofNat (((c.toNat:Nat):Int)).toNat=c:=by
 rw[Int.toNat_natCast];exact UInt8.ofNat_toNat
def zxV:Code:=yw Tryz.f67
def zj1:=mkG [] [] 79 [70000,70001,70002] [([0,0,1,1],⟨[0,1,5],[⟨.slot 5,5,(.barr 5 false [])⟩,⟨.fix 70000,70000,.cells []⟩,⟨.fix 70001,70001,.cells []⟩,⟨.fix 70002,70002,.cells []⟩]⟩),([1,1,1,0,1,1,0,1,0,0,0,1,1],⟨[0,1,5,6,43],[⟨.slot 5,5,(.barr 5 false [])⟩,⟨.fix 70000,70000,.cells []⟩,⟨.fix 70001,70001,.cells []⟩,⟨.fix 70002,70002,.cells []⟩]⟩)] []
def zxq:K:=kR Tryz.prog [70000,70001,70002] ⟨[4],[⟨.fix 70000,70000,.cells []⟩,⟨.fix 70001,70001,.cells []⟩,⟨.fix 70002,70002,.cells []⟩]⟩ [70000,70001,70002] Tryz.f67.results.toList
def zdL(F f1:Nat)(vb1 vs2:List UInt8)(vi3:Int)(vs4:List UInt8)(vc5:Bool)(vl6:List (List UInt8))(vl7:List (List UInt8×List UInt8×List UInt8)):=zcI zj1 zxV zxq F [] [1,1,0,0] f1 [(0,.ref 70000 0),(1,.p (.int .u8 34)),(5,.arr 5)] [(5,.barr 5 false vb1),(70000,.cells [pS vs2,pI vi3,.arr 70001,pS vs4,pB vc5,.arr 70002]),(70001,.larr 9 false 1 (.dat .str vl6)),(70002,.larr 93 false 3 (.dat (.pair .str (.pair .str .str)) vl7))]
def zqA(F f1:Nat)(vi8:Int)(vc9:Bool)(vb1 vs2:List UInt8)(vi10:Int)(vs4:List UInt8)(vc5:Bool)(vl6:List (List UInt8))(vl7:List (List UInt8×List UInt8×List UInt8)):=zcv zj1 zxV zxq F [f1] [1,1,0,0,0,1,0,1,1,0,1,1,1] [(0,.ref 70000 0),(1,.p (.int .u8 34)),(5,.arr 5),(6,.p (.int .u8 vi8)),(43,pB vc9)] [(5,.barr 5 false vb1),(70000,.cells [pS vs2,pI vi10,.arr 70001,pS vs4,pB vc5,.arr 70002]),(70001,.larr 9 false 1 (.dat .str vl6)),(70002,.larr 93 false 3 (.dat (.pair .str (.pair .str .str)) vl7))]
def zqk(F:Nat)(s:List UInt8)(at_:Int)(ws:List (List UInt8))(an:List UInt8)(hs:Bool)(out:List (List UInt8×List UInt8×List UInt8)):=zam zj1 Tryz.f67 ⟨[4],[⟨.fix 70000,70000,.cells []⟩,⟨.fix 70001,70001,.cells []⟩,⟨.fix 70002,70002,.cells []⟩]⟩ [70000,70001,70002] F [.ref 70000 0,.p (.int .u8 34)] [(70000,.cells [pS s,pI at_,.arr 70001,pS an,pB hs,.arr 70002]),(70001,.larr 9 false 1 (.dat .str ws)),(70002,.larr 93 false 3 (.dat (.pair .str (.pair .str .str)) out))]
theorem zeu(F f1 vb1 vs2 vi3 vs4 vc5 vl6 vl7):letI A:=((vs2.getD vi3.toNat 0).toNat:Int);letI B:=(vs2.length:Int);letI C:=vi3+1;zdL F (f1+1) vb1 vs2 vi3 vs4 vc5 vl6 vl7=cond (decide (vi3<B)) (ze (0<=vi3/\vi3<B) (ze (zh C) (cond (A==34) (some (.p (.str vb1),[(70000,.cells [.p (.str vs2),.p (.int .i64 C),.arr 70001,.p (.str vs4),.p (.bool vc5),.arr 70002]),(70001,.larr 9 false 1 (.dat .str vl6)),(70002,.larr 93 false 3 (.dat (.pair .str (.pair .str .str)) vl7))])) (zqA F f1 A ((A==92)&&(decide (C<B))) vb1 vs2 C vs4 vc5 vl6 vl7)))) (some (.p (.str vb1),[(70000,.cells [.p (.str vs2),.p (.int .i64 vi3),.arr 70001,.p (.str vs4),.p (.bool vc5),.arr 70002]),(70001,.larr 9 false 1 (.dat .str vl6)),(70002,.larr 93 false 3 (.dat (.pair .str (.pair .str .str)) vl7))])):=letI A:=(((vs2.getD vi3.toNat 0).toNat:Int)==92)=true;Eq.trans (by kernel_rfl) (zj (zf (zf (zj rfl (nI A (nI A (nI A (nI A (nI A (nI A (nI A (nI A (nI A (nI A rfl))))))))))))) rfl)
theorem zrP(F f1 vi8 vc9 vb1 vs2 vi10 vs4 vc5 vl6 vl7):letI A:=((vs2.getD vi10.toNat 0).toNat:Int).toNat;zqA F f1 vi8 vc9 vb1 vs2 vi10 vs4 vc5 vl6 vl7=cond vc9 (ze (0<=vi10/\vi10<(vs2.length:Int)) (ze ((vb1.length+[UInt8.ofNat A].length)*1<=140737488355328) (ze (zh (vi10+1)) (zdL F f1 (vb1++[UInt8.ofNat A]) vs2 (vi10+1) vs4 vc5 vl6 vl7)))) (ze ((vb1.length+[UInt8.ofNat vi8.toNat].length)*1<=140737488355328) (zdL F f1 (vb1++[UInt8.ofNat vi8.toNat]) vs2 vi10 vs4 vc5 vl6 vl7)):=by kernel_rfl
theorem zym(F s at_ ws an hs out):zqk F s at_ ws an hs out=zdL F F [] s at_ an hs ws out:=by kernel_rfl
theorem zAP(F s at_ ws an hs out r os):IsR 67 (zqk F s at_ ws an hs out) [.ref 70000 0,.p (.int .u8 34)] [(70000,.cells [.p (.str s),.p (.int .i64 at_),.arr 70001,.p (.str an),.p (.bool hs),.arr 70002]),(70001,.larr 9 false 1 (.dat .str ws)),(70002,.larr 93 false 3 (.dat (.pair .str (.pair .str .str)) out))] [70000,70001,70002] r os:=zb9 zj1 ⟨[4],[⟨.fix 70000,70000,.cells []⟩,⟨.fix 70001,70001,.cells []⟩,⟨.fix 70002,70002,.cells []⟩]⟩ [70000,70001,70002] rfl trivial
theorem zNl(F:Nat)(s an:List UInt8)(hs:Bool)(ws:List (List UInt8))(out:List yl)(hS:s.length<=1000000):∀ (n:Nat) (r b:List UInt8) (i f:Nat),r.length<=n->s.drop i=r->i+r.length=s.length->b.length+r.length<=1000000->r.length<f->
 zdL F f b s (i:Int) an hs ws out=some (.p (.str (b++(wiF r).1)),rdO s ((i:Int)+((wiF r).2:Int)) ws an hs out):=by
 intro n
 induction n with
 | zero=>
  intro r b i f hn hd hl hb hf
  obtain rfl:r=[]:=List.eq_nil_of_length_eq_zero (by omega)
  obtain⟨f,rfl⟩:∃ k,f=k+1:=⟨f-1,by omega⟩
  rw[zeu]
  refine zg (by simp at hl;simp;omega) ?_
  simp[wiF,rdO]
 | succ n ih=>
  intro r b i f hn hd hl hb hf
  obtain⟨f,rfl⟩:∃ k,f=k+1:=⟨f-1,by omega⟩
  cases r with
  | nil=>
   rw[zeu]
   refine zg (by simp at hl;simp;omega) ?_
   simp[wiF,rdO]
  | cons c r=>
   obtain⟨hg,hd2,hi⟩:=zap hd
   rw[List.length_cons]at hn hl hb hf
   rw[zeu]
   refine zi (decide_eq_true (by omega)) (zd ⟨by omega,by omega⟩ (zd ⟨by omega,by omega⟩ ?_))
   rw[Int.toNat_natCast,hg,ym c 34 34 34 rfl rfl]
   have e1:((i:Int)+1)=((i+1:Nat):Int):=by omega
   by_cases h34:c=34
   .subst h34
    refine zi (by decide) ?_
    cases r <;> simp[wiF,rdO]
   .refine zg (by simpa using h34) ?_
    rw[zrP,ym c 92 92 92 rfl rfl,e1]
    simp only[zuz]
    cases r with
    | nil=>
     refine zg (by simp at hl;simp;omega) (zd (by simp;omega) ?_)
     rw[ih [] (b++[c]) (i+1) f (by simp) hd2 (by simpa using hl) (by simp;simp at hb;omega) (by simpa using hf)]
     simp[wiF,h34]
    | cons d r=>
     obtain⟨hg2,hd3,hi2⟩:=zap hd2
     rw[List.length_cons]at hn hl hb hf
     by_cases h92:c=92
     .subst h92
      refine zi (by simp;omega) (zd ⟨by omega,by omega⟩ (zd (by simp;omega) (zd ⟨by omega,by omega⟩ ?_)))
      have e2:(((i+1:Nat):Int)+1)=((i+2:Nat):Int):=by omega
      rw[Int.toNat_natCast,hg2,e2,ih r (b++[d]) (i+2) f (by omega) hd3 (by omega) (by simp;omega) (by omega)]
      have e3:wiF (92::d::r)=(d::(wiF r).1,(wiF r).2+2):=by rw[wiF,if_neg (by decide),if_pos rfl]
      rw[e3]
      simp[List.append_assoc,rdO];omega
     .refine zg (by simp[h92]) (zd (by simp;omega) ?_)
      rw[ih (d::r) (b++[c]) (i+1) f (by simp;omega) hd2 (by simp;omega) (by simp;omega) (by simp;omega)]
      have e3:wiF (c::d::r)=(c::(wiF (d::r)).1,(wiF (d::r)).2+1):=by rw[wiF,if_neg h34,if_neg h92]
      rw[e3]
      simp[List.append_assoc,rdO];omega
theorem zEP(s:List UInt8)(at_:Int)(ws:List (List UInt8))(an:List UInt8)(hs:Bool)(out:List yl)(h:zlJ s at_):
 zqk (s.length+1) s at_ ws an hs out=some (.p (.str (wiF (s.drop at_.toNat)).1),rdO s (at_+((wiF (s.drop at_.toNat)).2:Int)) ws an hs out):=by
 obtain⟨h1,h2,h3⟩:=h
 rw[zym]
 obtain⟨i,rfl⟩:∃ i:Nat,at_=i:=⟨at_.toNat,by omega⟩
 have:=zNl (s.length+1) s an hs ws out h1 (s.drop i).length (s.drop i) [] i (s.length+1) (Nat.le_refl _) rfl (by simp;omega) (by simp;omega) (by simp;omega)
 rw[this]
 simp
def zir:yM:=⟨[false,true],fun args ib=>match args,ib with
 | [.ref 70000 0,.p (.int .u8 34)],[(70000,.cells [.p (.str s),.p (.int .i64 at_),.arr 70001,.p (.str an),.p (.bool hs),.arr 70002]),(70001,.larr 9 false 1 R),(70002,.larr 93 false 3 Q)]=>
  match zA .str (.list 1 R),zA zbZ (.list 3 Q)with
  | some ws,some out=>some (([70000,70001,70002],.p (.str (wiF (s.drop at_.toNat)).1)),(rdO s (at_+((wiF (s.drop at_.toNat)).2:Int)) ws an hs out,some (zlJ s at_)))
  | _,_=>none
 | _,_=>none⟩
theorem zAo:zS Tryz.prog 67 zir:=by
 intro args ib kept r zZ ok h hok
 simp only[zir]at h
 split at h
 .split at h
  .rename_i ws out hw ho
   obtain⟨rfl,_⟩:=yB hw
   obtain⟨rfl,_⟩:=yB ho
   cases h
   exact⟨by kernel_rfl,zAP _ _ _ _ _ _ _ _ _ fun _=>zEP _ _ _ _ _ _ hok⟩
  .cases h
 .cases h
def zDW:Code:=yw Tryz.f68
def znZ:=mkG [] [] 63 [70000,70001,70002] [([0,1,0],⟨[0,2],[⟨.fix 70000,70000,.cells []⟩,⟨.fix 70001,70001,.cells []⟩,⟨.fix 70002,70002,.cells []⟩]⟩),([1,1,0,0,1,0],⟨[0,2],[⟨.fix 70000,70000,.cells []⟩,⟨.fix 70001,70001,.cells []⟩,⟨.fix 70002,70002,.cells []⟩]⟩)] []
def zDx:K:=kR Tryz.prog [70000,70001,70002] ⟨[],[⟨.fix 70000,70000,.cells []⟩,⟨.fix 70001,70001,.cells []⟩,⟨.fix 70002,70002,.cells []⟩]⟩ [70000,70001,70002] Tryz.f68.results.toList
def zhz(F f1:Nat)(vi1:Int)(vs2:List UInt8)(vi3:Int)(vs4:List UInt8)(vc5:Bool)(vl6:List (List UInt8))(vl7:List (List UInt8×List UInt8×List UInt8)):=zcI znZ zDW zDx F [] [0,1,0] f1 [(0,.ref 70000 0),(2,pI vi1)] [(70000,.cells [pS vs2,pI vi3,.arr 70001,pS vs4,pB vc5,.arr 70002]),(70001,.larr 9 false 1 (.dat .str vl6)),(70002,.larr 93 false 3 (.dat (.pair .str (.pair .str .str)) vl7))]
def zeZ(F f1:Nat)(vi8:Int)(vs9:List UInt8)(vi10:Int)(vs11:List UInt8)(vc12:Bool)(vl13:List (List UInt8))(vl14:List (List UInt8×List UInt8×List UInt8)):=zcv znZ zDW zDx F [f1] [0,1,0,0,1,1] [(0,.ref 70000 0),(2,pI vi8)] [(70000,.cells [pS vs9,pI vi10,.arr 70001,pS vs11,pB vc12,.arr 70002]),(70001,.larr 9 false 1 (.dat .str vl13)),(70002,.larr 93 false 3 (.dat (.pair .str (.pair .str .str)) vl14))]
def zvG(F:Nat)(s:List UInt8)(at_:Int)(ws:List (List UInt8))(an:List UInt8)(hs:Bool)(out:List (List UInt8×List UInt8×List UInt8)):=zam znZ Tryz.f68 ⟨[],[⟨.fix 70000,70000,.cells []⟩,⟨.fix 70001,70001,.cells []⟩,⟨.fix 70002,70002,.cells []⟩]⟩ [70000,70001,70002] F [.ref 70000 0] [(70000,.cells [pS s,pI at_,.arr 70001,pS an,pB hs,.arr 70002]),(70001,.larr 9 false 1 (.dat .str ws)),(70002,.larr 93 false 3 (.dat (.pair .str (.pair .str .str)) out))]
theorem zbR(F f1 vi1 vs2 vi3 vs4 vc5 vl6 vl7):letI A:=((vs2.getD vi3.toNat 0).toNat:Int);letI B:=(vs2.length:Int);zhz F (f1+1) vi1 vs2 vi3 vs4 vc5 vl6 vl7=cond ((decide (vi1>0))&&(decide (vi3<B))) (ze (0<=vi3/\vi3<B) (cond (A==40) (ze (zh (vi1+1)) (zeZ F f1 (vi1+1) vs2 vi3 vs4 vc5 vl6 vl7)) (cond (A==41) (ze (zh (vi1-1)) (zeZ F f1 (vi1-1) vs2 vi3 vs4 vc5 vl6 vl7)) (cond (A==92) (ze (zh (vi3+1)) (zeZ F f1 vi1 vs2 (vi3+1) vs4 vc5 vl6 vl7)) (zeZ F f1 vi1 vs2 vi3 vs4 vc5 vl6 vl7))))) (some (.tup [],[(70000,.cells [.p (.str vs2),.p (.int .i64 (if B<vi3 then B else vi3)),.arr 70001,.p (.str vs4),.p (.bool vc5),.arr 70002]),(70001,.larr 9 false 1 (.dat .str vl6)),(70002,.larr 93 false 3 (.dat (.pair .str (.pair .str .str)) vl7))])):=letI A:=(decide (vi1>0))=true;Eq.trans (by kernel_rfl) (nI A (nI A (nI A (nI A (nI A (nI A (nI A (nI A (nI A (nI A rfl))))))))))
theorem zc3(F f1 vi8 vs9 vi10 vs11 vc12 vl13 vl14):zeZ F f1 vi8 vs9 vi10 vs11 vc12 vl13 vl14=ze (zh (vi10+1)) (zhz F f1 vi8 vs9 (vi10+1) vs11 vc12 vl13 vl14):=by kernel_rfl
theorem zBR(F s at_ ws an hs out):zvG F s at_ ws an hs out=zhz F F 1 s at_ an hs ws out:=by kernel_rfl
theorem zGb(F s at_ ws an hs out r os):IsR 68 (zvG F s at_ ws an hs out) [.ref 70000 0] [(70000,.cells [.p (.str s),.p (.int .i64 at_),.arr 70001,.p (.str an),.p (.bool hs),.arr 70002]),(70001,.larr 9 false 1 (.dat .str ws)),(70002,.larr 93 false 3 (.dat (.pair .str (.pair .str .str)) out))] [70000,70001,70002] r os:=zb9 znZ ⟨[],[⟨.fix 70000,70000,.cells []⟩,⟨.fix 70001,70001,.cells []⟩,⟨.fix 70002,70002,.cells []⟩]⟩ [70000,70001,70002] rfl trivial
theorem zNP(F:Nat)(s an:List UInt8)(hs:Bool)(ws:List (List UInt8))(out:List yl)(hS:s.length<=1000000):∀ (n:Nat) (r:List UInt8) (k i f:Nat),r.length<=n->s.drop i=r->i+r.length=s.length->k<=1+i->r.length<f->
 zhz F f (k:Int) s (i:Int) an hs ws out=some (.tup [],rdO s ((i:Int)+(rmF k r:Int)) ws an hs out):=by
 intro n
 induction n with
 | zero=>
  intro r k i f hn hd hl hk hf
  obtain rfl:r=[]:=List.eq_nil_of_length_eq_zero (by omega)
  obtain⟨f,rfl⟩:∃ q,f=q+1:=⟨f-1,by omega⟩
  have hl:i=s.length:=by simpa using hl
  rw[zbR]
  refine zg (by rw[Bool.and_eq_false_iff,decide_eq_false_iff_not,decide_eq_false_iff_not];omega) ?_
  rw[if_neg (by omega)]
  cases k <;> simp[rmF,rdO]
 | succ n ih=>
  intro r k i f hn hd hl hk hf
  obtain⟨f,rfl⟩:∃ q,f=q+1:=⟨f-1,by omega⟩
  cases r with
  | nil=>
   have hl:i=s.length:=by simpa using hl
   rw[zbR]
   refine zg (by rw[Bool.and_eq_false_iff,decide_eq_false_iff_not,decide_eq_false_iff_not];omega) ?_
   rw[if_neg (by omega)]
   cases k <;> simp[rmF,rdO]
  | cons c r=>
   obtain⟨hg,hd2,hi⟩:=zap hd
   rw[List.length_cons]at hn hl hf
   cases k with
   | zero=>
    rw[zbR]
    refine zg (by rw[Bool.and_eq_false_iff,decide_eq_false_iff_not,decide_eq_false_iff_not];omega) ?_
    rw[if_neg (by omega)]
    simp[rmF,rdO]
   | succ k=>
    rw[zbR]
    refine zi (by rw[Bool.and_eq_true,decide_eq_true_iff,decide_eq_true_iff];omega) (zd ⟨by omega,by omega⟩ ?_)
    rw[Int.toNat_natCast,hg,ym c 40 40 40 rfl rfl,ym c 41 41 41 rfl rfl,ym c 92 92 92 rfl rfl]
    have e1:((i:Int)+1)=((i+1:Nat):Int):=by omega
    have e2:(((k+1:Nat):Int)+1)=((k+2:Nat):Int):=by omega
    have e3:(((k+1:Nat):Int)-1)=(k:Int):=by omega
    by_cases h40:c=40
    .subst h40
     refine zi (by decide) (zd ⟨by omega,by omega⟩ ?_)
     rw[zc3,e1,e2]
     refine zd ⟨by omega,by omega⟩ ?_
     rw[ih r (k+2) (i+1) f (by omega) hd2 (by omega) (by omega) (by omega)]
     cases r with
     | nil=>simp[rmF,rdO]
     | cons d r=>rw[show rmF (k+1) (40::d::r)=rmF (k+2) (d::r)+1 by rw[rmF,if_pos rfl]];simp[rdO];omega
    .refine zg (by simpa using h40) ?_
     by_cases h41:c=41
     .subst h41
      refine zi (by decide) (zd ⟨by omega,by omega⟩ ?_)
      rw[zc3,e1,e3]
      refine zd ⟨by omega,by omega⟩ ?_
      rw[ih r k (i+1) f (by omega) hd2 (by omega) (by omega) (by omega)]
      cases r with
      | nil=>cases k <;> simp[rmF,rdO]
      | cons d r=>rw[show rmF (k+1) (41::d::r)=rmF k (d::r)+1 by rw[rmF,if_neg (by decide),if_pos rfl]];simp[rdO];omega
     .refine zg (by simpa using h41) ?_
      by_cases h92:c=92
      .subst h92
       refine zi (by decide) (zd ⟨by omega,by omega⟩ ?_)
       rw[zc3]
       refine zd ⟨by omega,by omega⟩ ?_
       cases r with
       | nil=>
        obtain⟨f,rfl⟩:∃ q,f=q+1:=⟨f-1,by omega⟩
        simp only[List.length_nil]at hl
        rw[zbR]
        refine zg (by rw[Bool.and_eq_false_iff,decide_eq_false_iff_not,decide_eq_false_iff_not];omega) ?_
        rw[if_pos (by omega)]
        have:((s.length:Nat):Int)=(i:Int)+1:=by omega
        simp[rmF,rdO,this]
       | cons d r=>
        obtain⟨hg2,hd3,hi2⟩:=zap hd2
        rw[List.length_cons]at hn hl hf
        have e4:((i:Int)+1+1)=((i+2:Nat):Int):=by omega
        rw[e4,ih r (k+1) (i+2) f (by omega) hd3 (by omega) (by omega) (by omega)]
        rw[show rmF (k+1) (92::d::r)=rmF (k+1) r+2 by rw[rmF,if_neg (by decide),if_neg (by decide),if_pos rfl]];simp[rdO];omega
      .refine zg (by simpa using h92) ?_
       rw[zc3,e1]
       refine zd ⟨by omega,by omega⟩ ?_
       rw[ih r (k+1) (i+1) f (by omega) hd2 (by omega) (by omega) (by omega)]
       cases r with
       | nil=>simp[rmF,rdO]
       | cons d r=>rw[show rmF (k+1) (c::d::r)=rmF (k+1) (d::r)+1 by rw[rmF,if_neg h40,if_neg h41,if_neg h92]];simp[rdO];omega
theorem zFa(s:List UInt8)(at_:Int)(ws:List (List UInt8))(an:List UInt8)(hs:Bool)(out:List yl)(h:zlJ s at_):
 zvG (s.length+1) s at_ ws an hs out=some (.tup [],rdO s (at_+(rmF 1 (s.drop at_.toNat):Int)) ws an hs out):=by
 obtain⟨h1,h2,h3⟩:=h
 rw[zBR]
 obtain⟨i,rfl⟩:∃ i:Nat,at_=i:=⟨at_.toNat,by omega⟩
 have:=zNP (s.length+1) s an hs ws out h1 (s.drop i).length (s.drop i) 1 i (s.length+1) (Nat.le_refl _) rfl (by simp;omega) (by omega) (by simp;omega)
 rw[Int.toNat_natCast]
 exact this
def zli:yM:=⟨[false],fun args ib=>match args,ib with
 | [.ref 70000 0],[(70000,.cells [.p (.str s),.p (.int .i64 at_),.arr 70001,.p (.str an),.p (.bool hs),.arr 70002]),(70001,.larr 9 false 1 R),(70002,.larr 93 false 3 Q)]=>
  match zA .str (.list 1 R),zA zbZ (.list 3 Q)with
  | some ws,some out=>some (([70000,70001,70002],.tup []),(rdO s (at_+(rmF 1 (s.drop at_.toNat):Int)) ws an hs out,some (zlJ s at_)))
  | _,_=>none
 | _,_=>none⟩
theorem zFt:zS Tryz.prog 68 zli:=by
 intro args ib kept r zZ ok h hok
 simp only[zli]at h
 split at h
 .split at h
  .rename_i ws out hw ho
   obtain⟨rfl,_⟩:=yB hw
   obtain⟨rfl,_⟩:=yB ho
   cases h
   exact⟨by kernel_rfl,zGb _ _ _ _ _ _ _ _ _ fun _=>zFa _ _ _ _ _ _ hok⟩
  .cases h
 .cases h
def zQ3:=mkG [] [] 11 [70000,70002] [] []
def zRi(F:Nat)(s:List UInt8)(at_:Int)(ws:List (List UInt8))(an:List UInt8)(hs:Bool)(out:List (List UInt8×List UInt8×List UInt8)):=zam zQ3 Tryz.f72 ⟨[],[⟨.fix 70000,70000,.cells []⟩,⟨.fix 70002,70002,.cells []⟩,⟨.cell 70000 2,70001002,(.larr 9 false 1 (.dat .str ([]:List (List UInt8))))⟩]⟩ [70000,70002,70001002] F [.ref 70000 0] [(70000,.cells [pS s,pI at_,.arr 70001,pS an,pB hs,.arr 70002]),(70001,.larr 9 false 1 (.dat .str ws)),(70002,.larr 93 false 3 (.dat (.pair .str (.pair .str .str)) out))]
theorem zMZ(F s at_ ws an hs out):zRi F s at_ ws an hs out=some (.tup [],[(70000,.cells [.p (.str s),.p (.int .i64 at_),.arr 70001002,.p (.str ([]:List UInt8)),.p (.bool false),.arr 70002]),(70002,.larr 93 false 3 (.dat (.pair .str (.pair .str .str)) out)),(70001002,.larr 9 false 1 (.dat .str ([]:List (List UInt8))))]):=by kernel_rfl
theorem zPt(F s at_ ws an hs out r os):IsR 72 (zRi F s at_ ws an hs out) [.ref 70000 0] [(70000,.cells [.p (.str s),.p (.int .i64 at_),.arr 70001,.p (.str an),.p (.bool hs),.arr 70002]),(70001,.larr 9 false 1 (.dat .str ws)),(70002,.larr 93 false 3 (.dat (.pair .str (.pair .str .str)) out))] [70000,70002] r os:=zb9 zQ3 ⟨[],[⟨.fix 70000,70000,.cells []⟩,⟨.fix 70002,70002,.cells []⟩,⟨.cell 70000 2,70001002,(.larr 9 false 1 (.dat .str ([]:List (List UInt8))))⟩]⟩ [70000,70002,70001002] rfl trivial
def znO:yM:=⟨[false],fun args ib=>match args,ib with
 | [.ref 70000 0],[(70000,.cells [.p (.str s),.p (.int .i64 at_),.arr 70001,.p (.str an),.p (.bool hs),.arr 70002]),(70001,.larr 9 false 1 R),(70002,.larr 93 false 3 Q)]=>
  match zA .str (.list 1 R),zA zbZ (.list 3 Q)with
  | some ws,some out=>some (([70000,70002],.tup []),([(70000,.cells [.p (.str s),.p (.int .i64 at_),.arr 70001002,.p (.str []),.p (.bool false),.arr 70002]),(70002,.larr 93 false 3 (.dat zbZ out)),(70001002,.larr 9 false 1 (.dat .str []))],none))
  | _,_=>none
 | _,_=>none⟩
theorem zDr:zS Tryz.prog 72 znO:=by
 intro args ib kept r zZ ok h hok
 simp only[znO]at h
 split at h
 .split at h
  .rename_i ws out hw ho
   obtain⟨rfl,_⟩:=yB hw
   obtain⟨rfl,_⟩:=yB ho
   cases h
   exact⟨by kernel_rfl,zPt 0 _ _ _ _ _ _ _ _ fun _=>by rw[zMZ]⟩
  .cases h
 .cases h
end Go.Proofs.YtampckbjinodgaaGreatDoor
