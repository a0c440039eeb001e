/-
  Runs of this program on known data, checked by the kernel; no condition of its own.
-/
import Derived.Test.YtfidlcpfbinncaaGreatDoorTopB
set_option linter.unusedVariables false
noncomputable section
/-! The seat without texts;digits. -/
open Go Go.Bm Go.Proofs
namespace Go.Bm
noncomputable section
set_option maxRecDepth 100000
def SB:zd:=SW zN (fun _=>none) fun _=>none
def cd(f:Func):Code:=match f.body with|some c=>c|none=>.skip
def dgK(n:Nat):Nat:=match Nat.blt n 10 with|true=>1|false=>match Nat.blt n 100 with|true=>2|false=>match Nat.blt n 1000 with|true=>3|false=>4
def dgC(n:Nat):Nat:=match Nat.blt n 10 with
 | true=>48+n
 | false=>match Nat.blt n 100 with
  | true=>(48+n/10)+256*(48+n % 10)
  | false=>match Nat.blt n 1000 with
   | true=>(48+n/100)+256*((48+n/10 % 10)+256*(48+n % 10))
   | false=>(48+n/1000)+256*((48+n/100 % 10)+256*((48+n/10 % 10)+256*(48+n % 10)))
def dg(n:Nat):List UInt8:=dec (dgK n) (dgC n)
end
end Go.Bm
