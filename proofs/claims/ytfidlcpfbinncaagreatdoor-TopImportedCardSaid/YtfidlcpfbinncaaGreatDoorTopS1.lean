/-
  Runs of this program on known data, checked by the kernel; no condition of its own.
-/
import Derived.Test.YtfidlcpfbinncaaGreatDoorTopS
set_option linter.unusedVariables false
noncomputable section
/-! r1.Valid, text.plain. -/
open Go Go.Bm Go.Proofs
namespace Go.Bm
noncomputable section
set_option maxRecDepth 100000
theorem b206:Tryz.f206.body=some (cd Tryz.f206):=by kernel_rfl
theorem zFg:Tryz.f401.body=some (cd Tryz.f401):=by kernel_rfl
variable {ex:Nat->Option Ek}{a b:Nat}{t:List UInt8}
theorem zr3{a b:Nat}{t:List UInt8}:SOk (SY zN a b t):=zvr
theorem zr4{a b:Nat}{t:List UInt8}:SOk (SO zN a b t):=zvr
def psV:PS:=⟨slT [(0,.rp [.q 5,.q 6]),(2,.b false),(3,.ia 0 [5] [])],10,[]⟩
def laV:La:=⟨5,6,7,2,7,2000,2000,k65,none,false,fun _=>[],[],fun _=>psV,fun _=>psV,fun _=>⟨slT [],10,[]⟩,.x 0⟩
theorem zvi(t:List UInt8):ziV (SO zN 0 1000 t) 1000 10 [laV] [] [] (fun _=>⟨slT [(2,.b true)],10,[]⟩) 206 Tryz.f206 (cd Tryz.f206) [.rp [.q 2]] ⟨10,.e⟩=some (.b true,⟨10,.e⟩):=by kernel_rfl
theorem zw0(ht:t.length<=1000)(h:Hp):zg (SO ex 0 1000 t) 206 [.rp [.q 2]] h (.b true) h:=by
 have hl:=Go.Proofs.YtfidlcpfbinncaaGreatDoor.encB_len t.length t (Nat.le_refl _)
 refine beside (x:=zN) (by simp;rfl) rfl (zbP (U:=SO zN 0 1000 t) (S:=SY zN 0 1000 t) (L:=[5,6,7]) (ts:=[]) rfl zr3 zr4 zan zdn zco (fun I hI=>⟨fun A hA=>?_,trivial⟩) rfl (by rfl) b206 (zvi t)) h
 rw[List.mem_singleton]at hA
 subst hA
 exact zfR (u:=e64 t) rfl (by decide) rfl (by show(e64 t).length<=2000;unfold e64;omega) (zs8 _ t (Nat.le_refl _)) hI
def psP(x:List Ck)(y z:BV):PS:=⟨slT [(0,.rp x),(2,.b false),(5,y),(6,z)],10,[]⟩
def laP(e:Ex)(X:Option (List Nat)):La:=⟨5,6,7,1,7,2000,2000,kPr,X,false,fun _=>[],[],fun _=>psP [.q 5,.q 6] (.ia 0 [5,6] []) (.ia 0 [5] []),fun _=>psP [.q 5,.q 6] (.ia 0 [5,6] []) (.ia 0 [5] []),fun _=>psP [.q 1] .u .u,e⟩
def zET(x:Bool):St->PS:=fun _=>⟨slT [(2,.b x)],10,[]⟩
theorem zvH(t:List UInt8):ziV (SO zN 0 200 t) 1000 10 [laP (.x 0) none] [] [] (zET true) 401 Tryz.f401 (cd Tryz.f401) [.rp [.q 1]] ⟨10,.e⟩=some (.b true,⟨10,.e⟩):=by kernel_rfl
theorem zsm(t:List UInt8):ziV (SO zN 201 1000 t) 1000 10 [laP (.x 0) none] [] [] (zET false) 401 Tryz.f401 (cd Tryz.f401) [.rp [.q 1]] ⟨10,.e⟩=some (.b false,⟨10,.e⟩):=by kernel_rfl
theorem zsl(t:List UInt8):ziV (SO zN 0 1000 t) 1000 10 [laP .r (some zBT)] [] [] (zET false) 401 Tryz.f401 (cd Tryz.f401) [.rp [.q 1]] ⟨10,.e⟩=some (.b false,⟨10,.e⟩):=by kernel_rfl
theorem zx7(ht:t.length<=1000)(h:Hp):zg (SO ex 0 1000 t) 401 [.rp [.q 1]] h (.b (plT t)) h:=by
 cases hp:t.all prB with
 | false=>
  rw[show plT t=false by unfold plT;rw[hp];rfl]
  refine beside (x:=zN) (by simp;rfl) rfl (zbP (U:=SO zN 0 1000 t) (S:=SY zN 0 1000 t) (L:=[5,6,7]) (ts:=[]) rfl zr3 zr4 zan zdn zco (fun I hI=>⟨fun A hA=>?_,trivial⟩) rfl (by rfl) zFg (zsl t)) h
  rw[List.mem_singleton]at hA
  subst hA
  exact zyM rfl ht zvr (ziJ t hp) hI
 | true=>
  rcases Nat.lt_or_ge 200 t.length with hl|hl
  .rw [show plT t=false by unfold plT;rw[hp];show Nat.ble t.length 200=false;exact Bool.eq_false_iff.2 fun h=>by have:=Nat.le_of_ble_eq_true h;omega]
   refine sharp (x:=zN) (a:=201) (b:=1000) hl ht (beside (x:=zN) (by simp;rfl) rfl (zbP (U:=SO zN 201 1000 t) (S:=SY zN 201 1000 t) (L:=[5,6,7]) (ts:=[]) rfl zr3 zr4 zan zdn zco (fun I hI=>⟨fun A hA=>?_,trivial⟩) rfl (by rfl) zFg (zsm t)) h)
   rw[List.mem_singleton]at hA
   subst hA
   exact zfR (u:=t) rfl (by decide) rfl (by omega) (zl3 hp) hI
  .rw [show plT t=true by unfold plT;rw[hp];show Nat.ble t.length 200=true;exact Nat.ble_eq_true_of_le hl]
   refine sharp (x:=zN) (a:=0) (b:=200) (Nat.zero_le _) hl (beside (x:=zN) (by simp;rfl) rfl (zbP (U:=SO zN 0 200 t) (S:=SY zN 0 200 t) (L:=[5,6,7]) (ts:=[]) rfl zr3 zr4 zan zdn zco (fun I hI=>⟨fun A hA=>?_,trivial⟩) rfl (by rfl) zFg (zvH t)) h)
   rw[List.mem_singleton]at hA
   subst hA
   exact zfR (u:=t) rfl (by decide) rfl (by omega) (zl3 hp) hI
end
end Go.Bm
