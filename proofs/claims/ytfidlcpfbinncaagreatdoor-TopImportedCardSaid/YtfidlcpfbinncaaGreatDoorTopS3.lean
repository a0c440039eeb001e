/-
  Runs of this program on known data, checked by the kernel; no condition of its own.
-/
import Derived.Test.YtfidlcpfbinncaaGreatDoorTopS2
set_option linter.unusedVariables false
noncomputable section
/-! r7.quote, json's text. -/
open Go Go.Bm Go.Proofs
namespace Go.Bm
noncomputable section
set_option maxRecDepth 100000
theorem b99:Tryz.f99.body=some (cd Tryz.f99):=by kernel_rfl
theorem b322:Tryz.f322.body=some (cd Tryz.f322):=by kernel_rfl
variable {ex:Nat->Option Ek}{t:List UInt8}
theorem zi1.up{S:zd}{A:La}{I:In}{n:Nat}(h:zi1 S 10 A I)(hn:10<=n):zi1 S n A I:={ h with lt:=fun q hq=>Nat.lt_of_lt_of_le (h.lt q hq) hn }
def cQ:Nat:=30075139569974056188821137906014820026768983228099505477288398401698199088241110059721795381392999099261130058151101808246572055386420417069266767297823580168827
def cQ0:Nat:=199540153085642709219905628412596745212400801875840335603693427322715154094510920884415825234348875999936510975377114069017163611653583196944596174890851443323
def psQ1:PS:=⟨slT [(0,.sx 533 67 [5]),(1,.rp [.q 5,.q 6]),(4,.ns),(5,.ia 0 [5] [])],534,[(533,.br 5 0 [.k 67 cQ,.q 5])]⟩
def laQ:La:=⟨5,6,7,2,7,2000,2000,k65,none,false,fun _=>[],[0],fun _=>psQ1,fun _=>psQ1,fun _=>⟨slT [(0,.sx 533 67 [2])],534,[(533,.br 5 0 [.k 67 cQ,.q 2])]⟩,.x 0⟩
def feQ:Fe:=⟨[.sg 1 530 0 66,.rp [.q 2]],532,[(530,.bs 5 0 66 cQ0)],.sx 532 68 [2],533,[(532,.br 5 0 [.k 67 cQ,.q 2,.k 1 34])]⟩
theorem zBz(t:List UInt8):ziV (SO zN 0 1000 t) 1000 532 [laQ] [] [(532,535)] (fun _=>⟨slT [(4,.sx 532 68 [2])],533,feQ.l'⟩) 99 Tryz.f99 (cd Tryz.f99) feQ.xs ⟨feQ.n,zbK feQ.l⟩=some (feQ.v,⟨feQ.n',zbK feQ.l'⟩):=by kernel_rfl
theorem zD8(ht:t.length<=1000):ztG (SY ex 0 1000 t) 99 feQ:=by
 have hl:=Go.Proofs.YtfidlcpfbinncaaGreatDoor.encB_len t.length t (Nat.le_refl _)
 refine⟨rfl,reY (x:=zN) (zbP (U:=SO zN 0 1000 t) (S:=SY zN 0 1000 t) (L:=[5,6,7]) (ts:=[]) rfl zr3 zr4 zan zdn (fun q hq=>Nat.lt_of_lt_of_le (zco q hq) (by decide)) (fun I hI=>⟨fun A hA=>?_,trivial⟩) rfl (by rfl) b99 (zBz t))⟩
 rw[List.mem_singleton]at hA
 subst hA
 exact zi1.up (zfR (u:=e64 t) rfl (by decide) rfl (by show(e64 t).length<=2000;unfold e64;omega) (zs8 _ t (Nat.le_refl _)) hI) (by decide)
def cT1:Nat:=30075139569974056188821137906014820026768983228099505477288398401698199088241110059721795381392999099261130058151101808246572055386420417069266767297823580168827
def cT2:Nat:=243542107471550959966703077578112755224533025221433086757498467759290684470879747976226
def obT(l:List Ck)(x:BV):Ob:=mkC 282 [.rp (.k 67 cT1::(l++[.k 36 cT2])),x,zb 0]
def psT0:PS:=⟨slT [(0,.p 603 0),(2,.s 0 0),(3,.ns)],737,[(603,obT [.q 5,.q 6] (.ia 67 [5] []))]⟩
def psT1:PS:=⟨slT [(0,.p 603 0),(2,.s 0 0),(3,.sx 737 0 [5])],738,[(603,obT [.q 5,.q 6] (.ia 67 [5] [])),(737,.br 5 0 [.q 5])]⟩
def psT2:PS:=⟨slT [(2,.rp [.q 2])],737,[(603,obT [.q 2] (.ia 68 [2] []))]⟩
def laT:La:=⟨5,6,7,2,7,2000,2000,k65,none,false,fun _=>[],[3],fun _=>psT0,fun _=>psT1,fun _=>psT2,.r⟩
def feT:Fe:=⟨[.p 603 0],737,[(603,obT [.q 2] (zb 66))],.rp [.q 2],737,[(603,obT [.q 2] (.ia 68 [2] []))]⟩
theorem zBl(t:List UInt8):ziV (SO zN 0 1000 t) 1000 737 [laT] [] [] (fun _=>psT2) 322 Tryz.f322 (cd Tryz.f322) feT.xs ⟨feT.n,zbK feT.l⟩=some (feT.v,⟨feT.n',zbK feT.l'⟩):=by kernel_rfl
theorem zD2(ht:t.length<=1000):ztG (SY ex 0 1000 t) 322 feT:=by
 have hl:=Go.Proofs.YtfidlcpfbinncaaGreatDoor.encB_len t.length t (Nat.le_refl _)
 refine⟨rfl,reY (x:=zN) (zbP (U:=SO zN 0 1000 t) (S:=SY zN 0 1000 t) (L:=[5,6,7]) (ts:=[]) rfl zr3 zr4 zan zdn (fun q hq=>Nat.lt_of_lt_of_le (zco q hq) (by decide)) (fun I hI=>⟨fun A hA=>?_,trivial⟩) rfl (by rfl) b322 (zBl t))⟩
 rw[List.mem_singleton]at hA
 subst hA
 exact zi1.up (zfR (u:=e64 t) rfl (by decide) rfl (by show(e64 t).length<=2000;unfold e64;omega) (zs8 _ t (Nat.le_refl _)) hI) (by decide)
end
end Go.Bm
