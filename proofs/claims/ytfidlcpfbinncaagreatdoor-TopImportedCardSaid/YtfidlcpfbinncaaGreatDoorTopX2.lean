/-
  Runs of this program on known data, checked by the kernel; no condition of its own.
-/
import Derived.Test.YtfidlcpfbinncaaGreatDoorTopX
import Derived.Test.YtfidlcpfbinncaaGreatDoorTopV4
set_option linter.unusedVariables false
noncomputable section
/-! The seat of a text is sound. -/
open Go Go.Bm Go.Proofs
namespace Go.Bm
noncomputable section
variable {t:List UInt8}
theorem zzt{x:Nat->Option Ek}(ht:t.length<=1000){f:Nat}{k:Ek}(h:znV f=some k):zN f=some k\/zcp (SY x 0 1000 t) f k:=by
 unfold znV at h
 split at h
 .cases h;exact .inr (ze8 fun e he h=>by rw[List.mem_singleton.1 he];exact onY (x:=zN) (zE2 ht h))
 .cases h;exact .inr (ze8 fun e he h=>by rw[List.mem_singleton.1 he];exact onY (x:=zN) (zw0 ht h))
 .cases h;exact .inr (ze8 fun e he h=>by rw[List.mem_singleton.1 he];exact onY (x:=zN) (zyz ht h))
 .cases h;exact .inr (ze8 fun e he h=>by rw[List.mem_singleton.1 he];exact onY (x:=zN) (zES ht h))
 .cases h;exact .inr (ze8 fun e he h=>by rw[List.mem_singleton.1 he];exact onY (x:=zN) (zDW ht h))
 .cases h;exact .inr (ze8 fun e he h=>by rw[List.mem_singleton.1 he];exact onY (x:=zN) (zD7 ht h))
 .cases h;exact .inr (ze8 fun e he h=>by rw[List.mem_singleton.1 he];exact onY (x:=zN) (zj4 ht h))
 .cases h;exact .inr (zfZ fun e he=>by rw[List.mem_singleton.1 he];exact zD8 ht)
 .cases h;exact .inr (zfZ fun e he=>by rw[List.mem_singleton.1 he];exact zD2 ht)
 .cases h;exact .inr (zfZ fun e he=>by rw[List.mem_singleton.1 he];exact zvk ht)
 .cases h;exact .inr (zfZ fun e he=>by rw[List.mem_singleton.1 he];exact zwZ ht)
 .exact .inl h
theorem zkG(ht:t.length<=1000):SOk (TS t):=sok fun f k h=>zzt ht h
end
end Go.Bm
