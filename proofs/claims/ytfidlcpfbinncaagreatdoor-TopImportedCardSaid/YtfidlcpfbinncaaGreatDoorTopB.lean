/-
  Runs of this program on known data, checked by the kernel; no condition of its own.
-/
import Derived.Laws.StructEq
import Derived.RecoverIn
import Derived.Test.YtfidlcpfbinncaaGreatDoorTopA
set_option linter.unusedVariables false
noncomputable section
/-! The tables are right. -/
open Go Go.Bm Go.Proofs
namespace Go.Bm
set_option maxRecDepth 100000
variable {x:Nat->Option Ek}{bd:Nat->Option (Nat×Nat)}{sy:Nat->Option (List UInt8)}
theorem zHK:FT=zgV (zhl mF Tryz.prog.funcs.toList) 0 .e:=by kernel_rfl
theorem zyo:zjQ (SW zN (fun _=>none) (fun _=>none)) 0 (zhl mF Tryz.prog.funcs.toList)=true:=by kernel_rfl
theorem zis{S S':zd}(h:S.plan=S'.plan):∀ (l:List (Option Func)) (i:Nat),zjQ S i l=zjQ S' i l
 | [],_=>rfl
 | none::l,i=>zis h l _
 | some fn::l,i=>by
  show and (okF S i fn) (zjQ S (Nat.succ i) l)=and (okF S' i fn) (zjQ S' (Nat.succ i) l)
  rw[zis h l]
  unfold okF
  rw[h]
theorem zBI:zjQ (SW x bd sy) 0 (zhl mF Tryz.prog.funcs.toList)=true:=(zis rfl _ _).trans zyo
end Go.Bm
/-! The tables are right, on. -/
open Go Go.Bm Go.Proofs
namespace Go.Bm
set_option maxRecDepth 100000
variable {x:Nat->Option Ek}{bd:Nat->Option (Nat×Nat)}{sy:Nat->Option (List UInt8)}
theorem zHH:TT=zgV (zhl (List.replicate 819 true) Tryz.prog.types.toList) 0 .e:=by kernel_rfl
theorem zpC:TyOk (SW x bd sy):=zBi (S:=SW x bd sy) (TT:=TT) (l:=Tryz.prog.types.toList) (fun _=>rfl) zHH fun t i h=>by
 have h:Tryz.prog.types[t]?=some i:=by simpa using h
 have hlt:t<Tryz.prog.types.size:=(Array.getElem?_eq_some_iff.1 h).1
 show Tables.info? _ t=_
 unfold Tables.info?
 exact(if_pos hlt).trans h
theorem zHh:liesAt Tryz.prog Tryz.prog.depth 171 1 0 171 1=true:=by kernel_rfl
theorem zHg:liesAt Tryz.prog Tryz.prog.depth 173 1 0 171 1=true:=by kernel_rfl
theorem zHf:liesAt Tryz.prog Tryz.prog.depth 198 1 5 171 1=true:=by kernel_rfl
theorem zus:∀ e off u,zyF e off u=true->liesAt Tryz.prog Tryz.prog.depth e 1 off u 1=true:=by
 intro e off u h
 simp only[zyF,Bool.and_eq_true,Bool.or_eq_true]at h
 obtain⟨h1,h2⟩:=h
 obtain rfl:=Nat.eq_of_beq_eq_true h1
 rcases h2 with⟨h2,h3⟩|⟨h2,h3⟩|⟨h2,h3⟩ <;> obtain rfl:=Nat.eq_of_beq_eq_true h2 <;> obtain rfl:=Nat.eq_of_beq_eq_true h3
 .exact zHh
 .exact zHg
 .exact zHf
theorem uM:Tryz.prog.underlying 335=some (.struct (Tryz.prog.fieldsOf 335)):=by kernel_rfl
theorem fM:(Tryz.prog.fieldsOf 335).toList=[{ name:= "Box",type:=3,offset:=0,embedded:=false,tag:= "",pkgPath:= "",byteOffset:=0 },{ name:= "Uid",type:=3,offset:=1,embedded:=false,tag:= "",pkgPath:= "",byteOffset:=8 }]:=by kernel_rfl
theorem sM:Tryz.prog.stoodInHeld 335=false:=by kernel_rfl
theorem gM:Tryz.prog.eqGuardType Tryz.prog.depth 335=false:=by kernel_rfl
theorem u3:Tryz.prog.underlying 3=some (.int .i64):=by kernel_rfl
theorem zzD:∀ t,eq2F t=true->∀ (a b c d:Int) (w:World),(Op.equal t (.agg #[.int .i64 a,.int .i64 b]) (.agg #[.int .i64 c,.int .i64 d])).run Tryz.prog w=.ok (a==c&&b==d) w/\
 ∀ op x y,(eqGuard op t x y (.agg #[.int .i64 a,.int .i64 b]) (.agg #[.int .i64 c,.int .i64 d])).run Tryz.prog w=.ok () w:=by
 intro t ht a b c d w
 obtain rfl:=Nat.eq_of_beq_eq_true ht
 refine⟨?_,fun op x y=>run_eqGuard_agg w op 335 x y _ _ gM⟩
 show(Op.equalIn (9999+1) 335 _ _).run _ _=_
 rw[run_equalIn_struct w 9999 335 _ _ uM sM,fM]
 have hp0:∀ x y:Int,(part 3 #[.int .i64 x,.int .i64 y] 0).run Tryz.prog w=.ok (.int .i64 x) w:=by
  intro x y
  simp[part,isAgg,run_underlying u3]
 have hp1:∀ x y:Int,(part 3 #[.int .i64 x,.int .i64 y] 1).run Tryz.prog w=.ok (.int .i64 y) w:=by
  intro x y
  simp[part,isAgg,run_underlying u3]
 have he:∀ x y:Int,(Op.equalIn 9999 3 (.int .i64 x) (.int .i64 y)).run Tryz.prog w=.ok (x==y) w:=fun x y=>run_equalIn_int w 9998 3 .i64 .i64 x y u3
 simp only[Op.eqFields,Sem.run_bind,Sem.run_ite,hp0,hp1,he,Result.andThen_ok]
 cases h1:(a==c) <;> cases h2:(b==d) <;> simp
theorem b167:Tryz.f174.body=some (.seq (.region 0 #[⟨some 3,.call ⟨.builtin .recover,#[],#[]⟩,20, "json.go:233",#[],none⟩,⟨some 4,.binOp .neq 20 (.tmp 3) (.const .nilIface) 20,4, "json.go:233",#[⟨0,.data⟩],none⟩] false) (.cond (.tmp 4) (match Tryz.f174.body with|some (.seq _ (.cond _ x _))=>x|_=>.skip) .skip)):=by kernel_rfl
theorem vok:VOk (SW x bd sy):={ zpC with eq2:=zzD,lies:=zus }
theorem n167:Tryz.f174.ntmps=10:=by kernel_rfl
theorem r167:Tryz.f174.results=#[]:=by kernel_rfl
theorem p167:Tryz.prog.funcs[174]?=some Tryz.f174:=by kernel_rfl
theorem zB1:∀ f,zDr f=true->zR Tryz.prog f=true/\zAz (SW x bd sy) f:=by
 intro f hf
 obtain rfl:=Nat.eq_of_beq_eq_true hf
 refine⟨by kernel_rfl,fun args C γ h w r=>?_⟩
 refine callsDIn_of_wpSIn p167 b167 trivial fun c₀ cs hu=>?_
 have hsz:3<(args++Array.replicate (10-args.size) undef).size:=by simp;omega
 have hsz4:4<(args++Array.replicate (10-args.size) undef).size:=by simp;omega
 rw[n167]
 generalize args++Array.replicate (10-args.size) undef=tm at hsz hsz4
 apply wpSIn_seq
 apply wpSIn_region
 have hb:((eqGuard .neq 20 (.tmp 3) (.const .nilIface) .nilIface .nilIface).run (SW x bd sy).P w).andThen (fun _ w'=>(binOp .neq 20 .nilIface .nilIface).run (SW x bd sy).P w')=.ok (.bool false) w:=by
  obtain⟨q,h1,h2⟩:=zlX vok (γ:=γ) (o:=.neq) (t:=20) (xo:=.tmp 3) (yo:=.const .nilIface) (x:=.ni) (y:=.ni) (v:=.b false) (by kernel_rfl) .ni .ni w
  cases h2
  rw[Sem.run_bind]at h1
  exact h1
 have hg:(eqGuard .neq 20 (.tmp 3) (.const .nilIface) .nilIface .nilIface).run (SW x bd sy).P w=.ok () w:=by simp[eqGuard]
 rw[hg,Result.andThen_ok]at hb
 simp[wpOpsSIn,go_sem,recoverD,hu,Exit.thenS,hsz,hb]
 refine wpSIn_cond (t:=false) (by simp[Act.eval,hsz4]) ?_
 simp only[Bool.false_eq_true,if_false]
 refine wpSIn_of_wpIn rfl (wpIn_skip ?_)
 cases c₀
 simp_all [bodyPostS,results,r167]
end Go.Bm
/-! The seat is sound. -/
open Go Go.Bm Go.Proofs
namespace Go.Bm
set_option maxRecDepth 100000
variable {x:Nat->Option Ek}{bd:Nat->Option (Nat×Nat)}{sy:Nat->Option (List UInt8)}
theorem x29:Xt Tryz.prog 29 (Extern.Atomic.update (Op.intArith .add) .i64 true):=⟨Tryz.f29,by kernel_rfl,by kernel_rfl,by kernel_rfl,by kernel_rfl,by kernel_rfl⟩
theorem x105:Xt Tryz.prog 105 (Extern.Atomic.storeT):=⟨Tryz.f105,by kernel_rfl,by kernel_rfl,by kernel_rfl,by kernel_rfl,by kernel_rfl⟩
theorem x186:Xt Tryz.prog 186 (Extern.Atomic.loadT (.int .i64)):=⟨Tryz.f186,by kernel_rfl,by kernel_rfl,by kernel_rfl,by kernel_rfl,by kernel_rfl⟩
theorem x211:Xt Tryz.prog 211 (Extern.Atomic.loadT (.int .u32)):=⟨Tryz.f211,by kernel_rfl,by kernel_rfl,by kernel_rfl,by kernel_rfl,by kernel_rfl⟩
theorem x382:Xt Tryz.prog 382 (Extern.BytealgIndexByte.indexByte):=⟨Tryz.f382,by kernel_rfl,by kernel_rfl,by kernel_rfl,by kernel_rfl,by kernel_rfl⟩
theorem x385:Xt Tryz.prog 385 (Extern.Atomic.storeT):=⟨Tryz.f385,by kernel_rfl,by kernel_rfl,by kernel_rfl,by kernel_rfl,by kernel_rfl⟩
theorem x474:Xt Tryz.prog 474 (Extern.AbiNoEscape.same):=⟨Tryz.f474,by kernel_rfl,by kernel_rfl,by kernel_rfl,by kernel_rfl,by kernel_rfl⟩
theorem x510:Xt Tryz.prog 510 (fun _=>do mark .disable;pure Extern.Race.none_):=⟨Tryz.f510,by kernel_rfl,by kernel_rfl,by kernel_rfl,by kernel_rfl,by kernel_rfl⟩
theorem x511:Xt Tryz.prog 511 (Extern.Atomic.casT (.int .i32)):=⟨Tryz.f511,by kernel_rfl,by kernel_rfl,by kernel_rfl,by kernel_rfl,by kernel_rfl⟩
theorem x512:Xt Tryz.prog 512 (fun _=>do mark .enable;pure Extern.Race.none_):=⟨Tryz.f512,by kernel_rfl,by kernel_rfl,by kernel_rfl,by kernel_rfl,by kernel_rfl⟩
theorem x513:Xt Tryz.prog 513 (Extern.Race.marked .acquire):=⟨Tryz.f513,by kernel_rfl,by kernel_rfl,by kernel_rfl,by kernel_rfl,by kernel_rfl⟩
theorem x515:Xt Tryz.prog 515 (Extern.Race.marked .releaseMerge):=⟨Tryz.f515,by kernel_rfl,by kernel_rfl,by kernel_rfl,by kernel_rfl,by kernel_rfl⟩
theorem x516:Xt Tryz.prog 516 (Extern.Atomic.update (Op.intArith .add) .i32 true):=⟨Tryz.f516,by kernel_rfl,by kernel_rfl,by kernel_rfl,by kernel_rfl,by kernel_rfl⟩
theorem x525:Xt Tryz.prog 525 (Extern.BytealgMakeNoZero.makeNoZero #[3] #[27]):=⟨Tryz.f525,by kernel_rfl,by kernel_rfl,by kernel_rfl,by kernel_rfl,by kernel_rfl⟩
theorem x616:Xt Tryz.prog 616 (Extern.BytealgCount.count):=⟨Tryz.f616,by kernel_rfl,by kernel_rfl,by kernel_rfl,by kernel_rfl,by kernel_rfl⟩
theorem zEU:∀ f k,zN f=some k->zcp (SW x bd sy) f k:=by
 intro f k h
 unfold zN at h
 split at h <;> (try (cases h;done)) <;> cases h
 .exact zuM x29
 .exact zzr x105
 .exact zzs x186
 .exact zzs x211
 .exact zCi x382
 .exact zzr x385
 .exact zCj x474
 .exact zuL x510
 .exact zCl x511
 .exact zuL x512
 .exact zqV x513
 .exact zqV x515
 .exact zuM x516
 .exact zCh (by kernel_rfl:Tryz.prog.underlying 27=some (.slice 5)) x525
 .exact zCk x616
theorem zEN:∀ f fn,(SW x bd sy).fn f=some fn->(SW x bd sy).P.funcs[f]?=some fn/\(fn.name== "runtime.NumGoroutine")=false/\∀ c,fn.body=some c->okC fn.ntmps false (AC.of ((SW x bd sy).plan f) c)=true:=
 zBj (S:=SW x bd sy) (FT:=FT) (m:=mF) (fun _=>rfl) zHK zBI
theorem sok(hx:∀ f k,x f=some k->zN f=some k\/zcp (SW x bd sy) f k):SOk (SW x bd sy) where
 ty:=zpC.ty
 eq2:=zzD
 lies:=zus
 fn:=zEN
 ext:=fun f k h=>(hx f k h).elim (fun h=>zEU f k h) id
 idle:=zB1
theorem zvr:SOk (SW zN bd sy):=sok fun f k h=>.inl h
theorem zan:Tryz.prog.follows .mixedOrders=true:=by kernel_rfl
end Go.Bm
