/-
  Runs of this program on known data, checked by the kernel; no condition of its own.
-/
import Derived.Test.YtfidlcpfbinncaaGreatDoorTopY0
import Derived.Test.YtfidlcpfbinncaaGreatDoorTopY1
import Derived.Test.YtfidlcpfbinncaaGreatDoorTopY2
import Derived.Test.YtfidlcpfbinncaaGreatDoorTopY3
import Derived.Test.YtfidlcpfbinncaaGreatDoorTopY4
import Derived.Test.YtfidlcpfbinncaaGreatDoorTopYA
import Derived.Test.YtfidlcpfbinncaaGreatDoorTopYB
import Derived.Test.YtfidlcpfbinncaaGreatDoorTopYR0
import Derived.Test.YtfidlcpfbinncaaGreatDoorTopYR1
set_option linter.unusedVariables false
noncomputable section
/-! The law's function tells true. -/
open Go Go.Bm Go.Proofs
namespace Go.Bm
noncomputable section
set_option maxRecDepth 100000
variable {t:List UInt8}
theorem sokA:SOk SA:=sok fun f k h=>by
 unfold exA at h
 split at h
 .rename_i hf
  cases h
  rw[Nat.eq_of_beq_eq_true hf]
  refine .inr (zfZ fun e he=>?_)
  rw[List.mem_singleton.1 he]
  have k:zCS SB 12 (teF feA):=zfg zvr zan ferA
  exact⟨by kernel_rfl,zg.sharp (S:=SA) (S':=SB) rfl (fun _ hG=>⟨hG.gt,hG.sy,hG.bd⟩) k⟩
 .exact .inl h
theorem zj9{S:zd}(hS:SOk S)(hm:S.P.follows .mixedOrders=true){n:Nat}{f:FuncId}{xs:List BV}{h:Hp}(k:zwz S n f xs h=true):∃ h',zg S f xs h (.b true) h':=by
 unfold zwz at k
 split at k
 .rename_i h1 hv
  exact⟨h1,zka hS hm _ hv⟩
 .cases k
theorem zrs{x:Nat->Option Ek}{bd:Nat->Option (Nat×Nat)}{sy:Nat->Option (List UInt8)}(h:Hp):zg (SW x bd sy) 4 [] h (.b true) h:=by
 obtain⟨h1,k⟩:=zj9 sokA zan awr
 exact zg.beside (S:=SW x bd sy) (by simp) rfl (zg.sharp (S:=(SW x bd sy).bare) (S':=SA) rfl (fun _ hG=>⟨hG.gt,hG.sy,hG.bd⟩) k) h
theorem sokL(ht:t.length<=1000):SOk (TL t):=sok fun f k h=>by
 unfold xL at h
 split at h
 .rename_i hf
  cases h
  rw[Nat.eq_of_beq_eq_true hf]
  refine .inr (zfZ fun e he=>?_)
  simp only[List.mem_cons,List.not_mem_nil,or_false]at he
  rcases he with rfl|rfl|rfl|rfl|rfl
  .exact ⟨by kernel_rfl,reY (x:=znV) (zfg (zkG ht) zan (fer0 t))⟩
  .exact ⟨by kernel_rfl,reY (x:=znV) (zfg (zkG ht) zan (fer1 t))⟩
  .exact ⟨by kernel_rfl,reY (x:=znV) (zfg (zkG ht) zan (fer2 t))⟩
  .exact ⟨by kernel_rfl,reY (x:=znV) (zfg (zkG ht) zan (fer3 t))⟩
  .exact ⟨by kernel_rfl,reY (x:=znV) (zfg (zkG ht) zan (fer4 t))⟩
 .rename_i hf _
  cases h
  rw[Nat.eq_of_beq_eq_true hf]
  exact .inr (zzT fun h=>zrs h)
 .exact zzt ht h
theorem zxN(ht:t.length<=1000)(b:Bool):∃ h',zg (TL t) 3 [.rp [.q 1],.b b] ⟨10,.e⟩ (.b true) h':=by
 cases b
 .exact zj9 (sokL ht) zan (top0 t)
 .exact zj9 (sokL ht) zan (top1 t)
def xG:Nat->Option Ek:=fun f=>match Nat.beq f 4 with
 | true=>some (.cst (.b true))
 | false=>zN f
def bdG:Nat->Option (Nat×Nat):=fun q=>match Nat.beq q 1 with
 | true=>some (1001,9223372036854775807)
 | false=>none
def syG(t:List UInt8):Nat->Option (List UInt8):=fun q=>match Nat.beq q 1 with
 | true=>some t
 | false=>none
def TG(t:List UInt8):zd:=SW xG bdG (syG t)
theorem zyD(t:List UInt8)(b:Bool):zwz (TG t) 1000 3 [.rp [.q 1],.b b] ⟨2,.e⟩=true:=by kernel_rfl
theorem sokG:SOk (TG t):=sok fun f k h=>by
 unfold xG at h
 split at h
 .rename_i hf
  cases h
  rw[Nat.eq_of_beq_eq_true hf]
  exact .inr (zzT fun h=>zrs h)
 .exact .inl h
theorem zBO(t:List UInt8)(b:Bool):∃ h',zg (TG t) 3 [.rp [.q 1],.b b] ⟨2,.e⟩ (.b true) h':=zj9 sokG zan (zyD t b)
end
end Go.Bm
