/-
  Runs of this program on known data, checked by the kernel; no condition of its own.
-/
import Derived.Test.YtfidlcpfbinncaaGreatDoorTopS1
set_option linter.unusedVariables false
noncomputable section
/-! text.String, r1.String. -/
open Go Go.Bm Go.Proofs
namespace Go.Bm
noncomputable section
set_option maxRecDepth 100000
theorem b240:Tryz.f240.body=some (cd Tryz.f240):=by kernel_rfl
theorem b14:Tryz.f14.body=some (cd Tryz.f14):=by kernel_rfl
variable {ex:Nat->Option Ek}{a b:Nat}{t:List UInt8}
def exP(p:Bool):Nat->Option Ek:=fun f=>match Nat.beq f 401 with
 | true=>some (.fn [([.rp [.q 1]],.b p)])
 | false=>match or (Nat.beq f 188) (Nat.beq f 26)with
  | true=>some (.fn [([.ia 0 [1] []],.rp [.q 4])])
  | false=>zN f
theorem zsS{S:zd}{p:Bool}(h1:∀ h,zg S 401 [.rp [.q 1]] h (.b p) h)(h2:∀ h,zg S 188 [.ia 0 [1] []] h (.rp [.q 4]) h)(h3:∀ h,zg S 26 [.ia 0 [1] []] h (.rp [.q 4]) h):∀ f k,exP p f=some k->zN f=some k\/zcp S f k:=by
 intro f k h
 unfold exP at h
 split at h
 .rename_i hf
  cases h
  rw[Nat.eq_of_beq_eq_true hf]
  exact .inr (ze8 fun e he h=>by rw[List.mem_singleton.1 he];exact h1 h)
 .split at h
  .rename_i hf
   cases h
   rw[Bool.or_eq_true]at hf
   rcases hf with hf|hf
   .rw [Nat.eq_of_beq_eq_true hf]
    exact .inr (ze8 fun e he h=>by rw[List.mem_singleton.1 he];exact h2 h)
   .rw [Nat.eq_of_beq_eq_true hf]
    exact .inr (ze8 fun e he h=>by rw[List.mem_singleton.1 he];exact h3 h)
  .exact .inl h
theorem zpX{p:Bool}(ht:t.length<=1000)(h1:∀ h,zg (SO zN a b t) 401 [.rp [.q 1]] h (.b p) h):SOk (SO (exP p) a b t):=
 sok (zsS (fun h=>reX (h1 h)) (fun h=>zj4 ht h) (fun h=>zos ht h))
theorem zpW{p:Bool}(ht:t.length<=1000)(h1:∀ h,zg (SO zN a b t) 401 [.rp [.q 1]] h (.b p) h):SOk (SY (exP p) a b t):=
 sok (zsS (fun h=>onY (h1 h)) (fun h=>onY (x:=zN) (zj4 ht h)) (fun h=>onY (x:=zN) (zos ht h)))
theorem sokX{p:Bool}(ht:t.length<=1000)(h1:∀ h,zg (SO zN a b t) 401 [.rp [.q 1]] h (.b p) h):SOk (SW (exP p) (bdX a b) (syO t)):=
 sok (zsS (fun h=>onX (h1 h)) (fun h=>onX (x:=zN) (zj4 ht h)) (fun h=>onX (x:=zN) (zos ht h)))
def ps0(l:List (Nat×BV))(tb:Nat):PS:=⟨slT ((tb,.sl 10 0 1 1)::l),11,[(10,.bs 5 0 1 34)]⟩
def ps1(l:List (Nat×BV))(tb:Nat):PS:=⟨slT ((tb,.sx 10 1 [7])::l),11,[(10,.br 5 0 [.k 1 34,.q 7])]⟩
def ps2(l:List (Nat×BV))(tb:Nat):PS:=⟨slT ((tb,.sx 10 1 [8])::l),11,[(10,.br 5 0 [.k 1 34,.q 8])]⟩
def laS(l l':List (Nat×BV))(tb:Nat)(e:Ex):La:=⟨5,6,7,1,8,2000,2000,kPr,none,true,zCo,[tb],fun _=>ps0 l tb,fun _=>ps1 l tb,fun _=>ps2 l' tb,e⟩
def zzp(tr:Nat):St->PS:=fun _=>⟨slT [(tr,.rp [.q 3])],10,[]⟩
def tsS:List (Nat×List Ck):=[(3,[.k 1 34,.q 8,.k 1 34])]
def tsD:List (Nat×List Ck):=[(3,[.k 1 123,.q 4,.k 3 658813,.q 1])]
theorem zA9(t:List UInt8):ziV (SO (exP true) 0 200 t) 1000 10 [laS [(0,.rp [.q 5,.q 6]),(2,.s 0 0),(17,.ia 0 [5,6] []),(18,.ia 0 [5] [])] [(2,.s 0 0)] 3 (.x 0)] tsS [] (zzp 2) 240 Tryz.f240 (cd Tryz.f240) [.rp [.q 1]] ⟨10,.e⟩=some (.rp [.q 3],⟨10,.e⟩):=by kernel_rfl
theorem zxC(t:List UInt8):ziV (SO (exP false) 0 1000 t) 1000 10 [] tsD [] (zzp 2) 240 Tryz.f240 (cd Tryz.f240) [.rp [.q 1]] ⟨10,.e⟩=some (.rp [.q 3],⟨10,.e⟩):=by kernel_rfl
def psF(x:List Ck)(y z:BV):PS:=⟨slT [(0,.rp x),(2,.s 0 0),(3,y),(4,z)],10,[]⟩
def laR(b:Bool)(X:Option (List Nat)):La:=⟨5,6,7,1,7,2000,2000,kPr,X,false,fun _=>[],[],fun _=>psF [.q 5,.q 6] (.b true) (.ia 0 [5] []),fun _=>psF [.q 5,.q 6] (.b true) (.ia 0 [5] []),fun _=>psF [.q 1] (.b b) .u,.x 0⟩
theorem zBy(p:Bool)(t:List UInt8):ziV (SO (exP p) 0 200 t) 1000 10 [laR true none,laS [(0,.rp [.q 5,.q 6]),(2,.s 0 0),(6,.ia 0 [5] [])] [(2,.s 0 0)] 5 (.x 2)] tsS [] (zzp 2) 14 Tryz.f14 (cd Tryz.f14) [.rp [.q 1]] ⟨10,.e⟩=some (.rp [.q 3],⟨10,.e⟩):=by kernel_rfl
theorem zx1(p:Bool)(t:List UInt8):ziV (SO (exP p) 0 200 t) 1000 10 [laR false (some zBT)] tsD [] (zzp 2) 14 Tryz.f14 (cd Tryz.f14) [.rp [.q 1]] ⟨10,.e⟩=some (.rp [.q 3],⟨10,.e⟩):=by kernel_rfl
theorem zx0(p:Bool)(t:List UInt8):ziV (SO (exP p) 201 1000 t) 1000 10 [] tsD [] (zzp 2) 14 Tryz.f14 (cd Tryz.f14) [.rp [.q 1]] ⟨10,.e⟩=some (.rp [.q 3],⟨10,.e⟩):=by kernel_rfl
theorem zHp:isS 2 8738 (zdc SB (ev SB 1000) 240 [.s 0 0] ⟨0,.e⟩)=true:=by kernel_rfl
theorem zE3:isS 2 8738 (zdc SB (ev SB 1000) 14 [.s 0 0] ⟨0,.e⟩)=true:=by kernel_rfl
theorem wide{ey:Nat->Option Ek}{f:FuncId}{xs:List BV}{h h':Hp}{v:BV}(hb:b<=1000)(k:zg (SO ex 0 1000 t) f xs h v h'):zg (SO ey a b t) f xs h v h':=
 zg.sharp (S:=SO ey a b t) (S':=SO ex 0 1000 t) rfl (fun C hG=>⟨hG.gt,hG.sy,fun q u w hq=>by
  by_cases h1:q=1
  .subst h1
   cases hq
   obtain⟨z,k1,k2,k3⟩:=hG.bd 1 a b rfl
   exact⟨z,k1,Nat.zero_le _,Nat.le_trans k3 hb⟩
  .refine hG.bd q u w ?_
   show bdW a b q=some (u,w)
   have hq:bdW 0 1000 q=some (u,w):=hq
   unfold bdW at hq ⊢
   split at hq <;> first|exact hq|exact absurd rfl h1⟩) k
theorem ztX{f:FuncId}(hr:isS 2 8738 (zdc SB (ev SB 1000) f [.s 0 0] ⟨0,.e⟩)=true)(h:Hp):zg (SO ex 0 1000 []) f [.rp [.q 1]] h (.rp [.q 3]) h:=by
 obtain⟨h',hr⟩:=zqA hr
 have k:=zka (S:=SB) zvr zan 1000 hr
 have k2:=zg.beside (S:=SO ex 0 1000 []) (xs:=[.s 0 0]) (by simp[plain]) rfl (zg.sharp (S:=(SO ex 0 1000 []).bare) (S':=SB) rfl (fun _ hG=>⟨hG.gt,hG.sy,hG.bd⟩) k) h
 exact zg.tell (.cons (zA1 (q:=1) (t:=[]) rfl (by decide) rfl) .nil) (zpI (q:=3) (t:=zof []) rfl (by decide+kernel)) k2
theorem allS(hp:plT t=true){ey:Nat->Option Ek}{I:In}(hI:BdI (SY ey a b t) I):zwL I tsS:=by
 refine⟨?_,trivial⟩
 show I 3=dec 1 34++(I 8++(dec 1 34++[]))
 rw[(hI.sy 3 _ rfl).2,(hI.sy 8 _ rfl).2]
 show zof t=_
 unfold zof
 rw[hp];rfl
theorem allD(hp:plT t=false){ey:Nat->Option Ek}{I:In}(hI:BdI (SY ey a b t) I):zwL I tsD:=by
 refine⟨?_,trivial⟩
 show I 3=dec 1 123++(I 4++(dec 3 658813++(I 1++[])))
 rw[(hI.sy 3 _ rfl).2,(hI.sy 4 _ rfl).2,(hI.sy 1 _ rfl).2,List.append_nil]
 show zof t=_
 unfold zof
 rw[hp];rfl
theorem zj1:plT t=true↔t.all prB=true/\t.length<=200:=by
 unfold plT
 rw[Bool.and_eq_true]
 exact⟨fun h=>⟨h.1,Nat.le_of_ble_eq_true h.2⟩,fun h=>⟨h.1,Nat.ble_eq_true_of_le h.2⟩⟩
theorem zeV{p:Bool}(hp:plT t=p)(ht:t.length<=1000)(hb:b<=1000)(h:Hp):zg (SO zN a b t) 401 [.rp [.q 1]] h (.b p) h:=wide (ex:=zN) hb (by have:=zx7 (ex:=zN) ht h;rwa [hp]at this)
theorem zDW(ht:t.length<=1000)(h:Hp):zg (SO ex 0 1000 t) 240 [.rp [.q 1]] h (.rp [.q 3]) h:=by
 by_cases h0:t=[]
 .subst h0;exact ztX zHp h
 .cases hp:plT t with
  | true=>
   obtain⟨h1,h2⟩:=zj1.1 hp
   refine sharp (x:=zN) (a:=0) (b:=200) (Nat.zero_le _) h2 (beside (x:=exP true) (by simp;rfl) rfl (zbP (U:=SO (exP true) 0 200 t) (S:=SY (exP true) 0 200 t) (L:=[5,6,7]) (ts:=tsS) rfl (zpW ht (zeV hp ht (by decide))) (zpX ht (zeV hp ht (by decide))) zan zdn zco (fun I hI=>⟨fun A hA=>?_,allS hp hI⟩) rfl (by rfl) b240 (zA9 t)) h)
   rw[List.mem_singleton]at hA
   subst hA
   exact zyN rfl ht h0 (zl3 h1) hI
  | false=>
   exact beside (x:=exP false) (by simp;rfl) rfl (zbP (U:=SO (exP false) 0 1000 t) (S:=SY (exP false) 0 1000 t) (L:=[5,6,7]) (ts:=tsD) rfl (zpW ht (zeV hp ht (by decide))) (zpX ht (zeV hp ht (by decide))) zan zdn zco (fun I hI=>⟨fun A hA=>(by cases hA),allD hp hI⟩) rfl (by rfl) b240 (zxC t)) h
theorem zD7(ht:t.length<=1000)(h:Hp):zg (SO ex 0 1000 t) 14 [.rp [.q 1]] h (.rp [.q 3]) h:=by
 by_cases h0:t=[]
 .subst h0;exact ztX zE3 h
 .rcases Nat.lt_or_ge 200 t.length with hl|hl
  .have hp:plT t=false:=Bool.eq_false_iff.2 fun h=>by have:=(zj1.1 h).2;omega
   exact sharp (x:=zN) (a:=201) (b:=1000) hl ht (beside (x:=exP false) (by simp;rfl) rfl (zbP (U:=SO (exP false) 201 1000 t) (S:=SY (exP false) 201 1000 t) (L:=[5,6,7]) (ts:=tsD) rfl (zpW ht (zeV hp ht (by decide))) (zpX ht (zeV hp ht (by decide))) zan zdn zco (fun I hI=>⟨fun A hA=>(by cases hA),allD hp hI⟩) rfl (by rfl) b14 (zx0 _ t)) h)
  .cases ha:t.all prB with
   | true=>
    have hp:plT t=true:=zj1.2 ⟨ha,hl⟩
    refine sharp (x:=zN) (a:=0) (b:=200) (Nat.zero_le _) hl (beside (x:=exP true) (by simp;rfl) rfl (zbP (U:=SO (exP true) 0 200 t) (S:=SY (exP true) 0 200 t) (L:=[5,6,7]) (ts:=tsS) rfl (zpW ht (zeV hp ht (by decide))) (zpX ht (zeV hp ht (by decide))) zan zdn zco (fun I hI=>⟨fun A hA=>?_,allS hp hI⟩) rfl (by rfl) b14 (zBy _ t)) h)
    rcases List.mem_cons.1 hA with rfl|hA
    .exact zfR (u:=t) rfl (by decide) rfl (by omega) (zl3 ha) hI
    .rw [List.mem_singleton]at hA
     subst hA
     exact zyN rfl ht h0 (zl3 ha) hI
   | false=>
    have hp:plT t=false:=Bool.eq_false_iff.2 fun h=>by have:=(zj1.1 h).1;rw[ha]at this;cases this
    refine sharp (x:=zN) (a:=0) (b:=200) (Nat.zero_le _) hl (beside (x:=exP false) (by simp;rfl) rfl (zbP (U:=SO (exP false) 0 200 t) (S:=SY (exP false) 0 200 t) (L:=[5,6,7]) (ts:=tsD) rfl (zpW ht (zeV hp ht (by decide))) (zpX ht (zeV hp ht (by decide))) zan zdn zco (fun I hI=>⟨fun A hA=>?_,allD hp hI⟩) rfl (by rfl) b14 (zx1 _ t)) h)
    rw[List.mem_singleton]at hA
    subst hA
    exact zyM rfl ht (sokX ht (zeV hp ht (by decide))) (ziJ t ha) hI
end
end Go.Bm
