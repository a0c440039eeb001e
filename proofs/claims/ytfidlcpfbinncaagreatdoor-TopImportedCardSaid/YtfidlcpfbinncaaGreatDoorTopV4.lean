/-
  Runs of this program on known data, checked by the kernel; no condition of its own.
-/
import Derived.Test.YtfidlcpfbinncaaGreatDoorTopV0
import Derived.Test.YtfidlcpfbinncaaGreatDoorTopV1
import Derived.Test.YtfidlcpfbinncaaGreatDoorTopV2
import Derived.Test.YtfidlcpfbinncaaGreatDoorTopV3
set_option linter.unusedVariables false
noncomputable section
/-! A zeh is read. -/
open Go Go.Bm Go.Proofs
namespace Go.Bm
noncomputable section
set_option maxRecDepth 100000
variable {ex:Nat->Option Ek}{t:List UInt8}
theorem zAU(t:List UInt8){n:Nat}(h:n<=1000):zlP t n=true:=by
 have go:∀ {lo k:Nat},zeD (fun i=>zlP t (lo+i)) k=true->lo<=n->n<lo+k->zlP t n=true:=fun {lo k} hk h1 h2=>by
  have:=zgb hk (n-lo) (by omega)
  rwa [show lo+(n-lo)=n by omega]at this
 by_cases h1:n<126
 .exact go (zw8 t) (Nat.zero_le _) (by omega)
 .by_cases h2:n<252
  .exact go (zw7 t) (by omega) (by omega)
  .by_cases h3:n<378
   .exact go (zw6 t) (by omega) (by omega)
   .by_cases h4:n<504
    .exact go (zw5 t) (by omega) (by omega)
    .by_cases h5:n<630
     .exact go (zw4 t) (by omega) (by omega)
     .by_cases h6:n<756
      .exact go (zw3 t) (by omega) (by omega)
      .by_cases h7:n<882
       .exact go (zw2 t) (by omega) (by omega)
       .exact go (zw1 t) (by omega) (by omega)
theorem zAT(t:List UInt8)(n:Nat):zil (SY zN 0 1000 t) (zx2 n).st.σ (zx2 n).st.h Tryz.f46.results.toList=some [.a [zb 4,zb n,.s 0 0,.ns,.ns]]:=by kernel_rfl
theorem zAS(n:Nat):zia (zbK feV.l') (zx2 n).st.h.t=true:=by kernel_rfl
theorem zxq{S:zd}{l r:List BV}(h:zeL S l r):zjT S (.a l) (.a r):=fun γ z hγ k=>by
 cases k with|a _ vs k=>exact .a _ vs (h.brels hγ k)
theorem zA2{S:zd}{q:Nat}{t:List UInt8}(hq:S.sy q=some t)(ht:t.length<=1000):zjT S (zb t.length) (.ia 0 [q] []):=fun γ z hγ k=>by
 obtain⟨g,h1,h2⟩:=hγ q t hq
 cases k
 have e:(Int.ofNat t.length)=(0:Int)+((g.T.length+0:Nat):Int)-((0:Nat):Int):=by rw[h2];simp
 rw[e]
 refine .ia 0 [q] [] _ _ (.cons q g h1 .nil) .nil ?_
 rw[<-e]
 exact show(-9223372036854775808:Int)<=t.length/\(t.length:Int)<=9223372036854775807 by omega
theorem zwZ(ht:t.length<=1000):ztG (SY ex 0 1000 t) 46 feV:=by
 refine⟨rfl,reY (x:=zN) (zg.tell (u0:=.a [zb 4,zb t.length,.s 0 0,.ns,.ns]) (zeL.refl _) (zxq (.cons (zjT.refl _) (.cons (zA2 (S:=SY zN 0 1000 t) (q:=1) rfl ht) (zeL.refl _)))) (zg.part (zCF (U:=SO zN 0 1000 t) (S:=SY zN 0 1000 t) (L:=[5,6,7]) (ts:=[(4,[.k (dgK t.length) (dgC t.length)])]) (P1:=zx2 t.length) rfl zr3 zr4 zan zdn (fun q hq=>Nat.lt_of_lt_of_le (zco q hq) (by decide)) (fun I hI=>⟨?_,trivial⟩) (by rfl) b46 (zAU t ht) (zAT t _) rfl) ⟨Nat.le_refl _,fun _=>.inr rfl⟩ (zpS (Nat.le_refl _) (zAS _))))⟩
 show I 4=dec _ _++[]
 rw[(hI.sy 4 _ rfl).2,List.append_nil];rfl
end
end Go.Bm
