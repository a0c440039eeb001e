/-
  Runs of this program on known data, checked by the kernel; no condition of its own.
-/
import Derived.KernelRfl
import Derived.Test.YtfidlcpfbinncaaGreatDoorTopQ
import Derived.Test.YtfidlcpfbinncaaGreatDoorCxA
set_option linter.unusedVariables false
noncomputable section
/-! Digits of a length. -/
open Go Go.Bm Go.Proofs
namespace Go.Bm
def zeD(f:Nat->Bool):Nat->Bool
 | 0=>true
 | n+1=>and (f n) (zeD f n)
theorem zgb{f:Nat->Bool}:∀ {n:Nat},zeD f n=true->∀ i,i<n->f i=true
 | n+1,h,i,hi=>by
  unfold zeD at h
  rw[Bool.and_eq_true]at h
  rcases Nat.lt_or_ge i n with hl|hl
  .exact zgb h.2 i hl
  .rw [show i=n by omega];exact h.1
noncomputable section
set_option maxRecDepth 100000
def isS(k c:Nat):Option (BV×Hp)->Bool
 | some (.s k' c',_)=>and (Nat.beq k' k) (Nat.beq c' c)
 | _=>false
theorem zqA{k c:Nat}{r:Option (BV×Hp)}(h:isS k c r=true):∃ h',r=some (.s k c,h'):=by
 unfold isS at h
 split at h
 .rw [Bool.and_eq_true]at h
  rw[Nat.eq_of_beq_eq_true h.1,Nat.eq_of_beq_eq_true h.2]
  exact⟨_,rfl⟩
 .cases h
def zrk(n:Nat):Bool:=isS (dgK n) (dgC n) (zdc SB (ev SB 1000) 188 [.i .i64 (.ofNat n)] ⟨0,.e⟩)
theorem zzM:zeD (fun i=>zrk (Nat.add 0 i)) 200=true:=by kernel_rfl
theorem zzL:zeD (fun i=>zrk (Nat.add 200 i)) 200=true:=by kernel_rfl
theorem zzK:zeD (fun i=>zrk (Nat.add 400 i)) 200=true:=by kernel_rfl
theorem zzJ:zeD (fun i=>zrk (Nat.add 600 i)) 200=true:=by kernel_rfl
theorem zzI:zeD (fun i=>zrk (Nat.add 800 i)) 201=true:=by kernel_rfl
theorem zCv(i:Nat)(h:i<1001):zrk i=true:=by
 have key:∀ {a m:Nat},zeD (fun i=>zrk (Nat.add a i)) m=true->a<=i->i<a+m->zrk i=true:=fun {a m} hr h1 h2=>by
  have:=zgb hr (i-a) (by omega)
  rwa [show Nat.add a (i-a)=i from Nat.add_sub_cancel' h1]at this
 rcases Nat.lt_or_ge i 200 with h0|h0
 .exact key zzM (Nat.zero_le _) (by omega)
 rcases Nat.lt_or_ge i 400 with h1|h1
 .exact key zzL h0 (by omega)
 rcases Nat.lt_or_ge i 600 with h2|h2
 .exact key zzK h1 (by omega)
 rcases Nat.lt_or_ge i 800 with h3|h3
 .exact key zzJ h2 (by omega)
 .exact key zzI h3 (by omega)
def dok(n:Nat):Bool:=match Nat.beq (Go.Proofs.YtfidlcpfbinncaaGreatDoor.digK 4 (n:Int)).length (dgK n)with
 | true=>Go.Proofs.YtfidlcpfbinncaaGreatDoor.digK 4 (n:Int)==dg n
 | false=>false
theorem zCu:zeD dok 1001=true:=by kernel_rfl
end
end Go.Bm
