/-
  Runs of this program on known data, checked by the kernel; no condition of its own.
-/
import Derived.Laws.StructEq
import Derived.RecoverIn
import Derived.Test.YtkbaejegflmeeaaGreatDoorTopA
/-! The tables are right. -/
open Go Go.Bm Go.Proofs
namespace Go.Bm
set_option maxRecDepth 100000
theorem FT_eq : FT = bldX (mskX mF Tryz.prog.funcs.toList) 0 .e := by kernel_rfl
theorem okF_all : okFs SS 0 (mskX mF Tryz.prog.funcs.toList) = true := by kernel_rfl
end Go.Bm

/-! The tables are right, on. -/
open Go Go.Bm Go.Proofs
namespace Go.Bm
set_option maxRecDepth 100000
theorem TT_eq : TT = bldX (mskX (List.replicate 818 true) Tryz.prog.types.toList) 0 .e := by kernel_rfl
theorem ty_ok : TyOk SS := seat_ty (S := SS) (TT := TT) (l := Tryz.prog.types.toList) (fun _ => rfl) TT_eq fun t i h => by
  have h : Tryz.prog.types[t]? = some i := by simpa using h
  have hlt : t < Tryz.prog.types.size := (Array.getElem?_eq_some_iff.1 h).1
  show Tables.info? _ t = _
  unfold Tables.info?
  exact (if_pos hlt).trans h
theorem lies1 : liesAt Tryz.prog Tryz.prog.depth 164 1 0 164 1 = true := by kernel_rfl
theorem lies2 : liesAt Tryz.prog Tryz.prog.depth 166 1 0 164 1 = true := by kernel_rfl
theorem lies3 : liesAt Tryz.prog Tryz.prog.depth 194 1 5 164 1 = true := by kernel_rfl
theorem lies_ok : ∀ e off u, liesF e off u = true → liesAt Tryz.prog Tryz.prog.depth e 1 off u 1 = true := by
  intro e off u h
  simp only [liesF, Bool.and_eq_true, Bool.or_eq_true] at h
  obtain ⟨h1, h2⟩ := h
  obtain rfl := Nat.eq_of_beq_eq_true h1
  rcases h2 with ⟨h2, h3⟩ | ⟨h2, h3⟩ | ⟨h2, h3⟩ <;> obtain rfl := Nat.eq_of_beq_eq_true h2 <;> obtain rfl := Nat.eq_of_beq_eq_true h3
  · exact lies1
  · exact lies2
  · exact lies3
theorem u330 : Tryz.prog.underlying 330 = some (.struct (Tryz.prog.fieldsOf 330)) := by kernel_rfl
theorem f330 : (Tryz.prog.fieldsOf 330).toList = [{ name := "Box", type := 3, offset := 0, embedded := false, tag := "", pkgPath := "", byteOffset := 0 }, { name := "Uid", type := 3, offset := 1, embedded := false, tag := "", pkgPath := "", byteOffset := 8 }] := by kernel_rfl
theorem s330 : Tryz.prog.stoodInHeld 330 = false := by kernel_rfl
theorem g330 : Tryz.prog.eqGuardType Tryz.prog.depth 330 = false := by kernel_rfl
theorem u3 : Tryz.prog.underlying 3 = some (.int .i64) := by kernel_rfl
theorem eq2_ok : ∀ t, eq2F t = true → ∀ (a b c d : Int) (w : World), (Op.equal t (.agg #[.int .i64 a, .int .i64 b]) (.agg #[.int .i64 c, .int .i64 d])).run Tryz.prog w = .ok (a == c && b == d) w ∧
    ∀ op x y, (eqGuard op t x y (.agg #[.int .i64 a, .int .i64 b]) (.agg #[.int .i64 c, .int .i64 d])).run Tryz.prog w = .ok () w := by
  intro t ht a b c d w
  obtain rfl := Nat.eq_of_beq_eq_true ht
  refine ⟨?_, fun op x y => run_eqGuard_agg w op 330 x y _ _ g330⟩
  show (Op.equalIn (9999 + 1) 330 _ _).run _ _ = _
  rw [run_equalIn_struct w 9999 330 _ _ u330 s330, f330]
  have hp0 : ∀ x y : Int, (part 3 #[.int .i64 x, .int .i64 y] 0).run Tryz.prog w = .ok (.int .i64 x) w := by
    intro x y
    simp [part, isAgg, run_underlying u3]
  have hp1 : ∀ x y : Int, (part 3 #[.int .i64 x, .int .i64 y] 1).run Tryz.prog w = .ok (.int .i64 y) w := by
    intro x y
    simp [part, isAgg, run_underlying u3]
  have he : ∀ x y : Int, (Op.equalIn 9999 3 (.int .i64 x) (.int .i64 y)).run Tryz.prog w = .ok (x == y) w := fun x y => run_equalIn_int w 9998 3 .i64 .i64 x y u3
  simp only [Op.eqFields, Sem.run_bind, Sem.run_ite, hp0, hp1, he, Result.andThen_ok]
  cases h1 : (a == c) <;> cases h2 : (b == d) <;> simp
theorem b167 : Tryz.f167.body = some (.seq (.region 0 #[⟨some 3, .call ⟨.builtin .recover, #[], #[]⟩, 20, "json.go:233", #[], none⟩, ⟨some 4, .binOp .neq 20 (.tmp 3) (.const .nilIface) 20, 4, "json.go:233", #[⟨0, .data⟩], none⟩] false) (.cond (.tmp 4) (match Tryz.f167.body with | some (.seq _ (.cond _ x _)) => x | _ => .skip) .skip)) := by kernel_rfl
theorem vok : VOk SS := { ty_ok with eq2 := eq2_ok, lies := lies_ok }
theorem u20 : SS.P.underlying 20 = some (.interface #[]) := by kernel_rfl
theorem n167 : Tryz.f167.ntmps = 10 := by kernel_rfl
theorem r167 : Tryz.f167.results = #[] := by kernel_rfl
theorem p167 : Tryz.prog.funcs[167]? = some Tryz.f167 := by kernel_rfl
theorem idle_ok : ∀ f, idleF f = true → callable Tryz.prog f = true ∧ IdleOk SS f := by
  intro f hf
  obtain rfl := Nat.eq_of_beq_eq_true hf
  refine ⟨by kernel_rfl, fun args C γ h w r => ?_⟩
  refine callsDIn_of_wpSIn p167 b167 trivial fun c₀ cs hu => ?_
  have hsz : 3 < (args ++ Array.replicate (10 - args.size) undef).size := by simp; omega
  have hsz4 : 4 < (args ++ Array.replicate (10 - args.size) undef).size := by simp; omega
  rw [n167]
  generalize args ++ Array.replicate (10 - args.size) undef = tm at hsz hsz4
  apply wpSIn_seq
  apply wpSIn_region
  have hb : ((eqGuard .neq 20 (.tmp 3) (.const .nilIface) .nilIface .nilIface).run SS.P w).andThen (fun _ w' => (binOp .neq 20 .nilIface .nilIface).run SS.P w') = .ok (.bool false) w := by
    obtain ⟨q, h1, h2⟩ := binV_sound vok (γ := γ) (o := .neq) (t := 20) (xo := .tmp 3) (yo := .const .nilIface) (x := .ni) (y := .ni) (v := .b false) (by kernel_rfl) .ni .ni w
    cases h2
    rw [Sem.run_bind] at h1
    exact h1
  have hg : (eqGuard .neq 20 (.tmp 3) (.const .nilIface) .nilIface .nilIface).run SS.P w = .ok () w := by simp [eqGuard]
  rw [hg, Result.andThen_ok] at hb
  simp [wpOpsSIn, go_sem, recoverD, hu, Exit.thenS, hsz, hb]
  refine wpSIn_cond (t := false) (by simp [Act.eval, hsz4]) ?_
  simp only [Bool.false_eq_true, if_false]
  refine wpSIn_of_wpIn rfl (wpIn_skip ?_)
  cases c₀
  simp_all [bodyPostS, results, r167]
end Go.Bm

/-! The seat is sound. -/
open Go Go.Bm Go.Proofs
namespace Go.Bm
set_option maxRecDepth 100000
theorem x24 : Xt Tryz.prog 24 (Extern.Atomic.update (Op.intArith .add) .i64 true) := ⟨Tryz.f24, by kernel_rfl, by kernel_rfl, by kernel_rfl, by kernel_rfl, by kernel_rfl⟩
theorem x39 : Xt Tryz.prog 39 (Extern.Atomic.loadT (.int .i64)) := ⟨Tryz.f39, by kernel_rfl, by kernel_rfl, by kernel_rfl, by kernel_rfl, by kernel_rfl⟩
theorem x98 : Xt Tryz.prog 98 Extern.Atomic.storeT := ⟨Tryz.f98, by kernel_rfl, by kernel_rfl, by kernel_rfl, by kernel_rfl, by kernel_rfl⟩
theorem x205 : Xt Tryz.prog 205 (Extern.Atomic.loadT (.int .u32)) := ⟨Tryz.f205, by kernel_rfl, by kernel_rfl, by kernel_rfl, by kernel_rfl, by kernel_rfl⟩
theorem x377 : Xt Tryz.prog 377 Extern.BytealgIndexByte.indexByte := ⟨Tryz.f377, by kernel_rfl, by kernel_rfl, by kernel_rfl, by kernel_rfl, by kernel_rfl⟩
theorem x380 : Xt Tryz.prog 380 Extern.Atomic.storeT := ⟨Tryz.f380, by kernel_rfl, by kernel_rfl, by kernel_rfl, by kernel_rfl, by kernel_rfl⟩
theorem x469 : Xt Tryz.prog 469 Extern.AbiNoEscape.same := ⟨Tryz.f469, by kernel_rfl, by kernel_rfl, by kernel_rfl, by kernel_rfl, by kernel_rfl⟩
theorem x506 : Xt Tryz.prog 506 (fun _ => do mark .disable; pure Extern.Race.none_) := ⟨Tryz.f506, by kernel_rfl, by kernel_rfl, by kernel_rfl, by kernel_rfl, by kernel_rfl⟩
theorem x507 : Xt Tryz.prog 507 (Extern.Atomic.casT (.int .i32)) := ⟨Tryz.f507, by kernel_rfl, by kernel_rfl, by kernel_rfl, by kernel_rfl, by kernel_rfl⟩
theorem x508 : Xt Tryz.prog 508 (fun _ => do mark .enable; pure Extern.Race.none_) := ⟨Tryz.f508, by kernel_rfl, by kernel_rfl, by kernel_rfl, by kernel_rfl, by kernel_rfl⟩
theorem x509 : Xt Tryz.prog 509 (Extern.Race.marked .acquire) := ⟨Tryz.f509, by kernel_rfl, by kernel_rfl, by kernel_rfl, by kernel_rfl, by kernel_rfl⟩
theorem x511 : Xt Tryz.prog 511 (Extern.Race.marked .releaseMerge) := ⟨Tryz.f511, by kernel_rfl, by kernel_rfl, by kernel_rfl, by kernel_rfl, by kernel_rfl⟩
theorem x512 : Xt Tryz.prog 512 (Extern.Atomic.update (Op.intArith .add) .i32 true) := ⟨Tryz.f512, by kernel_rfl, by kernel_rfl, by kernel_rfl, by kernel_rfl, by kernel_rfl⟩
theorem x522 : Xt Tryz.prog 522 (Extern.BytealgMakeNoZero.makeNoZero #[3] #[26]) := ⟨Tryz.f522, by kernel_rfl, by kernel_rfl, by kernel_rfl, by kernel_rfl, by kernel_rfl⟩
theorem x614 : Xt Tryz.prog 614 Extern.BytealgCount.count := ⟨Tryz.f614, by kernel_rfl, by kernel_rfl, by kernel_rfl, by kernel_rfl, by kernel_rfl⟩
theorem ext_ok : ∀ f k, extF f = some k → ExtOk SS f k := by
  intro f k h
  unfold extF at h
  split at h <;> (try (cases h; done)) <;> cases h
  · exact ext_add x24
  · exact ext_ld x39
  · exact ext_st x98
  · exact ext_ld x205
  · exact ext_idx x377
  · exact ext_st x380
  · exact ext_esc x469
  · exact ext_nop x506
  · exact ext_cas x507
  · exact ext_nop x508
  · exact ext_nop1 x509
  · exact ext_nop1 x511
  · exact ext_add x512
  · exact ext_mnz (by kernel_rfl : Tryz.prog.underlying 26 = some (.slice 5)) x522
  · exact ext_cnt x614
theorem fn_ok : ∀ f fn, SS.fn f = some fn → SS.P.funcs[f]? = some fn ∧ (fn.name == "runtime.NumGoroutine") = false ∧ ∀ c, fn.body = some c → okC fn.ntmps false (AC.of (SS.plan f) c) = true :=
  seat_fn (S := SS) (FT := FT) (m := mF) (fun _ => rfl) FT_eq okF_all
/-- The seat, with more calls that are known. -/
theorem sok (x : Nat → Option Ek) (hx : ∀ f k, x f = some k → extF f = some k ∨ ExtOk SS f k) : SOk (SW x) where
  ty := ty_ok.ty
  eq2 := eq2_ok
  lies := lies_ok
  fn := fn_ok
  ext := fun f k h => (hx f k h).elim (fun h => ext_ok f k h) id
  idle := idle_ok
theorem sok0 : SOk SS := sok extF fun f k h => .inl h
theorem mixed : Tryz.prog.follows .mixedOrders = true := by kernel_rfl
end Go.Bm
