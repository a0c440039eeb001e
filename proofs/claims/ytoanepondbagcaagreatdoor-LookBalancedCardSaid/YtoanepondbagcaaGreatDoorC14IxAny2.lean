/-
  Lifted functions, and facts about them.
-/
import Derived.Test.YtoanepondbagcaaGreatDoorRows
import Derived.Test.YtoanepondbagcaaGreatDoorAmC
import Derived.Test.YtoanepondbagcaaGreatDoorC14IxAny
import Derived.Lib.OthersKept
namespace Go.Proofs.YtoanepondbagcaaGreatDoor
open Go Go.Am
set_option linter.unusedVariables false
end Go.Proofs.YtoanepondbagcaaGreatDoor
namespace Go.Proofs.YtoanepondbagcaaGreatDoor
open Go Go.RowKit Go.Lib Go.Shelf
set_option maxHeartbeats 8000000 in
set_option maxRecDepth 1000000 in
theorem ia_short (s:ByteArray) (w:World) (h8:s.size<=8):Calls Tryz.prog 151 #[.string s,.string ⟨#[61,59]⟩] w fun e w'=>e=.returned (.int .i64 (Lib.indexAny s.data.toList [61,59]))/\Below w.heap.size w w':=by
 have h8z:decide ((8:Int) < (s.size:Int))=false:=decide_eq_false (by omega)
 have hSh:∀ w,Calls Tryz.prog 170 #[.int .i64 s.size] w fun e w'=>e=.returned (.bool (decide ((8:Int) < (s.size:Int))))/\w'=w:=fun w=>Any.strings_shouldUseASCIISet { lays153 with } _ w
 have hIR:∀ (r:Nat) (h:128<=r) (w:World),Calls Tryz.prog 169 #[.string ⟨#[61,59]⟩,.int .i32 (r:Int)] w fun e w'=>e=.returned (.int .i64 (-1))/\Below w.heap.size w w':=ir_all
 have hIA:∀ (r:Int) (w:World),0<=r->r < 128->Calls Tryz.prog 169 #[.string ⟨#[61,59]⟩,.int .i32 r] w fun e w'=>e=.returned (.int .i64 (Lib.indexByte [61,59] r.toNat.toUInt8))/\w'=w:=fun r w h0 h1=>Any.strings_IndexRune_ascii { lays153 with } ⟨#[61,59]⟩ r w h0 h1
 go_enter Tryz.func151,Tryz.ntmps151
 go_wp2_with (go_at_call 170; refine (hSh _).mono ?_; rintro e w' ⟨rfl,hw⟩; rw [hw,h8z])
 go_loopg [9,10] s.size (fun g _ _ wx=>∃ i:Nat,i+g=s.size/\wx.heap[w.heap.size]?=some (.stringIter s i)/\Below w.heap.size w wx/\Lib.NoAny s.data.toList [61,59] i)
 case atStart=>
  refine ⟨0,by omega,?_,(Below.refl _ w).alloc (Nat.le_refl _) _,Lib.NoAny.zero _ _⟩
  have:=World.iter_heap w s 0
  simpa using this
 case round=>
  obtain ⟨i,hig,hit,hbw,hno⟩:=hrel
  have hsz:w.heap.size < wr.heap.size:=(Array.getElem?_eq_some_iff.1 hit).1
  have HN:Aside (Lib.NoAny s.data.toList [61,59] i):=hno
  clear hno
  by_cases hp:i < s.size
  .have hbw2:=fun p=>Lib.below_iterAt hbw (k:=w.heap.size) (Nat.le_refl _) s p
   have hit2:=fun p=>Lib.iterAt_heap wr w.heap.size s i p hit
   by_cases ha:(s[i]'hp).toNat < 128
   .obtain ⟨x,hx⟩:∃ x:UInt8,s[i]'hp=x:=⟨_,rfl⟩
    have hxl:s.data.toList[i]?=some x:=by rw [<-hx]; exact Lib.data_getElem? s i hp
    have hnx:∀ ty,(Instr.next (.pointer (some ⟨w.heap.size,0,none⟩)) true ty).run Tryz.prog wr=_:=fun ty=>Lib.run_next_ascii_at wr w.heap.size s i ty hit hp ha
    rw [hx] at hnx ha
    have Hx:Aside (s.data.toList[i]?=some x):=hxl
    clear hxl hx
    have hcon:=Lib.contains_iff_indexByte [61,59] x
    have hback:((x.toNat:Int)).toNat.toUInt8=x:=by simp
    cases hin:[61,59].contains x
    .rw [hin] at hcon
     have hlt:¬ ((0:Int)<=Lib.indexByte [61,59] x):=of_decide_eq_false hcon.symm
     clear hcon
     go_wp2_with (go_at_call 169; refine (hIA _ _ (by omega) (by omega)).mono ?_; rintro e w' ⟨rfl,hw⟩; rw [hw,hback])
     go_roundg (s.size - (i+1))
     case measure=>omega
     case rel=>exact ⟨i+1,by omega,hit2 _,hbw2 _,HN.out.succ Hx.out hin⟩
    .rw [hin] at hcon
     have hge:(0:Int)<=Lib.indexByte [61,59] x:=of_decide_eq_true hcon.symm
     clear hcon
     go_wp2_with (go_at_call 169; refine (hIA _ _ (by omega) (by omega)).mono ?_; rintro e w' ⟨rfl,hw⟩; rw [hw,hback])
     go_ret
     exact ⟨by rw [Lib.indexAny_hit HN.out Hx.out hin]; rfl,hbw2 _⟩
   .have hnx:∀ ty,(Instr.next (.pointer (some ⟨w.heap.size,0,none⟩)) true ty).run Tryz.prog wr=_:=fun ty=>Lib.run_next_any_at wr w.heap.size s i ty hit hp
    have hcov:=dec_cover s i hp (by omega)
    have hwd:=(decode_high s i hp (by omega)).2
    have hhi:=(decode_high s i hp (by omega)).1
    have hend:i+(Utf8.decode s i).2<=s.size:=by have:=(hcov ((Utf8.decode s i).2 - 1) (by omega)).1; omega
    have HC:Aside (∀ j,j < (Utf8.decode s i).2->i+j < s.size/\128<=(s.get! (i+j)).toNat):=hcov
    clear hcov ha
    go_wp2_with (go_at_call 169; refine (hIR _ hhi _).mono ?_; rintro e w' ⟨rfl,hw⟩)
    go_roundg (s.size - (i+(Utf8.decode s i).2))
    case measure=>omega
    case rel=>exact ⟨i+(Utf8.decode s i).2,by omega,by rw [hw.block _ (by rw [Lib.iterAt_size]; exact hsz)]; exact hit2 _,(hbw2 _).trans (hw.mono (by rw [Lib.iterAt_size]; omega)),noAny_cover HN.out HC.out⟩
  .obtain rfl:i=s.size:=by omega
   have hnx:∀ ty,(Instr.next (.pointer (some ⟨w.heap.size,0,none⟩)) true ty).run Tryz.prog wr=_:=fun ty=>Lib.run_next_end_at wr w.heap.size s s.size ty hit hp
   go_wp2
   go_ret
   exact ⟨by rw [Lib.indexAny_none (by rw [<-Lib.size_eq]; exact HN.out)]; rfl,hbw⟩
set_option maxRecDepth 100000 in
theorem ia_all (s:ByteArray) (w:World) (hs:s.size < 4294967281):Calls Tryz.prog 151 #[.string s,.string ⟨#[61,59]⟩] w fun e w'=>e=.returned (.int .i64 (Lib.indexAny s.data.toList [61,59]))/\Below w.heap.size w w':=by
 by_cases h8:s.size<=8
 .exact ia_short s w h8
 .have h116:(Tryz.prog.info? 153).map (fun i=>(i.zero,i.size))=some (some (.agg (Array.replicate 256 (.bool false))),256):=by kernel_rfl
  refine (Any.strings_IndexAny_long lays153 (zero_of_info h116).1 (zero_of_info h116).2 s ⟨#[61,59]⟩ w (by decide) (by omega) hs (by decide) (ascii_of_all (by decide))).mono fun e w' ⟨h1,h2⟩=>⟨h1,?_⟩
  rw [h2]
  exact ((Below.refl _ _).alloc (Nat.le_refl _) _).alloc (by simp) _
end Go.Proofs.YtoanepondbagcaaGreatDoor
