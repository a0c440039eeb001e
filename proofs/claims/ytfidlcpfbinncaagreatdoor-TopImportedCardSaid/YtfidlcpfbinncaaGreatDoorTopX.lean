/-
  Runs of this program on known data, checked by the kernel; no condition of its own.
-/
import Derived.Test.YtfidlcpfbinncaaGreatDoorTopS2
import Derived.Test.YtfidlcpfbinncaaGreatDoorTopS3
set_option linter.unusedVariables false
noncomputable section
/-! A zeh is read. -/
open Go Go.Bm Go.Proofs
namespace Go.Bm
noncomputable section
set_option maxRecDepth 100000
theorem b46:Tryz.f46.body=some (cd Tryz.f46):=by kernel_rfl
def cV1:Nat:=910390826404575616234403955480968865869053898676319275901250164624089544153476237724437324487051608140134761998426055075124151790412228639187971461506769582874749352404978604840254321417856978957132599847499324160503490249646640894507086885635602709867835989594992046446241621569539191852691971089734800132746862700499891004673980427102762698900578939
def cV2:Nat:=1147974467084812415892922677995085464783856727574740208997929992318228654984945312723917722041900854361750909
def obV(x:BV):Ob:=mkC 128 [.rp [.k 146 cV1,.q 4,.k 45 cV2],x,zb 6,zb 0]
def feV:Fe:=⟨[.p 1894 0],2138,[(1894,obV (zb 146))],.a [zb 4,.ia 0 [1] [],.s 0 0,.ns,.ns],2139,[(1894,obV (.ia 146 [4] []))]⟩
def zx2(n:Nat):PS:=⟨slT [(2,.p 2138 0)],2139,[(1894,obV (.ia 146 [4] [])),(2138,mkC 34 [zb 4,zb n,.s 0 0,.ns,.ns])]⟩
def zlP(t:List UInt8)(n:Nat):Bool:=zE9 (SO zN 0 1000 t) 1000 2138 [(4,[.k (dgK n) (dgC n)])] (zx2 n) 46 (cd Tryz.f46) feV.xs feV.l
end
end Go.Bm
/-! A letter that answers none, or none that is there: no thread. -/
open Go Go.Bm Go.Proofs
namespace Go.Bm
noncomputable section
set_option maxRecDepth 100000
variable {ex:Nat->Option Ek}{t:List UInt8}
def exH(v:BV):Nat->Option Ek:=fun f=>match Nat.beq f 420 with
 | true=>some (.fn [([.rp [.q 1],.s 11 irC],v)])
 | false=>zN f
def obH:Ob:=mkC 140 [.s 1 117,.s 1 112,zb 1000,zb 100,zb 1048576,zb 1073741824,zb 1073741824,zb 10000,zb 200,zb 2,.sl 15 0 1 1,.ns,.p 14 0,zb 1,zb 1,zb 0]
def feH:Fe:=⟨[.p 16 0,.rp [.q 1]],1153,[(16,obH)],zb 0,1153,[(16,obH)]⟩
def teH:Te:=⟨feH.xs,⟨feH.n,zbK feH.l⟩,feH.v,⟨feH.n',zbK feH.l'⟩⟩
theorem zxo(t:List UInt8):chk (SY (exH (.s 0 0)) 0 1000 t) 1000 258 teH=true:=by kernel_rfl
theorem zxn(t:List UInt8):chk (SY (exH (.rp [.q 9])) 0 1000 t) 1000 258 teH=true:=by kernel_rfl
theorem sokH{v:BV}(k:∀ h,zg (SO zN 0 1000 t) 420 [.rp [.q 1],.s 11 irC] h v h):SOk (SY (exH v) 0 1000 t):=sok fun f k' h=>by
 unfold exH at h
 split at h
 .rename_i hf
  cases h
  rw[Nat.eq_of_beq_eq_true hf]
  exact .inr (ze8 fun e he h=>by rw[List.mem_singleton.1 he];exact onY (x:=zN) (k h))
 .exact .inl h
theorem zvk(ht:t.length<=1000):ztG (SY ex 0 1000 t) 258 feH:=by
 refine⟨rfl,?_⟩
 by_cases hv:Go.Proofs.YtfidlcpfbinncaaGreatDoor.thrS t irt=[]
 .have k:zCS (SY (exH (.s 0 0)) 0 1000 t) 258 teH:=zfg (sokH fun h=>zAZ ht hv h) zan (zxo t)
  exact reY (x:=exH (.s 0 0)) k
 .have k:zCS (SY (exH (.rp [.q 9])) 0 1000 t) 258 teH:=zfg (sokH fun h=>zxm ht hv h) zan (zxn t)
  exact reY (x:=exH (.rp [.q 9])) k
end
end Go.Bm
/-! The calls that are known. -/
open Go Go.Bm Go.Proofs
namespace Go.Bm
noncomputable section
set_option maxRecDepth 100000
variable {ex:Nat->Option Ek}{t:List UInt8}
def znV:Nat->Option Ek:=fun f=>match f with
 | 10=>some (.fn [([.rp [.q 1]],.rp [.q 2])])
 | 206=>some (.fn [([.rp [.q 2]],.b true)])
 | 235=>some (.fn [([.rp [.q 2]],.rp [.q 1])])
 | 454=>some (.fn [([.rp [.q 1]],.t [.u,.u])])
 | 240=>some (.fn [([.rp [.q 1]],.rp [.q 3])])
 | 14=>some (.fn [([.rp [.q 1]],.rp [.q 3])])
 | 188=>some (.fn [([.ia 0 [1] []],.rp [.q 4])])
 | 99=>some (.ftab [feQ])
 | 322=>some (.ftab [feT])
 | 258=>some (.ftab [feH])
 | 46=>some (.ftab [feV])
 | f=>zN f
def TS(t:List UInt8):zd:=SY znV 0 1000 t
def zwz(S:zd)(n:Nat)(f:FuncId)(xs:List BV)(h:Hp):Bool:=match zdc S (ev S n) f xs h with
 | some (.b true,_)=>true
 | _=>false
end
end Go.Bm
