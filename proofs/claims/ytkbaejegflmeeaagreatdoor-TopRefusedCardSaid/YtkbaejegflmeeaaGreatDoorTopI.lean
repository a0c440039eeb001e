/-
  The law's function, run on known data piece by piece, tells true for every n below 256. Conditions: none.
-/
import Derived.Test.YtkbaejegflmeeaaGreatDoorBmD
import Derived.Test.YtkbaejegflmeeaaGreatDoorTopH
import Derived.Test.YtkbaejegflmeeaaGreatDoorTopF0
import Derived.Test.YtkbaejegflmeeaaGreatDoorTopF1
import Derived.Test.YtkbaejegflmeeaaGreatDoorTopF2
import Derived.Test.YtkbaejegflmeeaaGreatDoorTopF3
import Derived.Test.YtkbaejegflmeeaaGreatDoorTopF4
import Derived.Test.YtkbaejegflmeeaaGreatDoorTopF5
import Derived.Test.YtkbaejegflmeeaaGreatDoorTopF6
/-! The law's function. -/
open Go Go.Bm Go.Proofs
namespace Go.Bm
set_option maxRecDepth 100000
noncomputable def extT : Nat → Option Ek := fun f => match Nat.beq f 6, Nat.beq f 10 with
  | true, _ => some (.tab tabE)
  | _, true => some (.cst (.b true))
  | _, _ => extF f
noncomputable def ST : Seat := SW extT
theorem tabE_ok : ∀ e ∈ tabE, TeOk SS 6 e := by
  intro e he
  simp only [tabE, List.mem_cons, List.not_mem_nil, or_false] at he
  rcases he with rfl | rfl | rfl | rfl | rfl | rfl | rfl | rfl | rfl | rfl | rfl | rfl | rfl | rfl | rfl | rfl | rfl | rfl | rfl | rfl | rfl | rfl | rfl | rfl | rfl | rfl | rfl | rfl | rfl | rfl | rfl | rfl | rfl | rfl | rfl | rfl | rfl | rfl | rfl | rfl | rfl
  · exact chk_ok sok0 mixed tc0
  · exact chk_ok sok0 mixed tc1
  · exact chk_ok sok0 mixed tc2
  · exact chk_ok sok0 mixed tc3
  · exact chk_ok sok0 mixed tc4
  · exact chk_ok sok0 mixed tc5
  · exact chk_ok sok0 mixed tc6
  · exact chk_ok sok0 mixed tc7
  · exact chk_ok sok0 mixed tc8
  · exact chk_ok sok0 mixed tc9
  · exact chk_ok sok0 mixed tc10
  · exact chk_ok sok0 mixed tc11
  · exact chk_ok sok0 mixed tc12
  · exact chk_ok sok0 mixed tc13
  · exact chk_ok sok0 mixed tc14
  · exact chk_ok sok0 mixed tc15
  · exact chk_ok sok0 mixed tc16
  · exact chk_ok sok0 mixed tc17
  · exact chk_ok sok0 mixed tc18
  · exact chk_ok sok0 mixed tc19
  · exact chk_ok sok0 mixed tc20
  · exact chk_ok sok0 mixed tc21
  · exact chk_ok sok0 mixed tc22
  · exact chk_ok sok0 mixed tc23
  · exact chk_ok sok0 mixed tc24
  · exact chk_ok sok0 mixed tc25
  · exact chk_ok sok0 mixed tc26
  · exact chk_ok sok0 mixed tc27
  · exact chk_ok sok0 mixed tc28
  · exact chk_ok sok0 mixed tc29
  · exact chk_ok sok0 mixed tc30
  · exact chk_ok sok0 mixed tc31
  · exact chk_ok sok0 mixed tc32
  · exact chk_ok sok0 mixed tc33
  · exact chk_ok sok0 mixed tc34
  · exact chk_ok sok0 mixed tc35
  · exact chk_ok sok0 mixed tc36
  · exact chk_ok sok0 mixed tc37
  · exact chk_ok sok0 mixed tc38
  · exact chk_ok sok0 mixed tc39
  · exact chk_ok sok0 mixed tc40
theorem sokT : SOk ST := by
  refine sok extT fun f k h => ?_
  unfold extT at h
  split at h
  · rename_i h1
    cases h
    obtain rfl := Nat.eq_of_beq_eq_true h1
    exact .inr (tab_ok tabE_ok)
  · rename_i h1 _
    cases h
    obtain rfl := Nat.eq_of_beq_eq_true h1
    exact .inr (cst_ok awake_ok)
  · exact .inl h
end Go.Bm

/-! The law's function, on. -/
open Go Go.Bm Go.Proofs
namespace Go.Bm
set_option maxRecDepth 100000
def AC.lf : AC → AC | .seq a _ => a | c => c
def AC.rt : AC → AC | .seq _ b => b | c => c
noncomputable def c3 : Code := match Tryz.f3.body with | some c => c | none => .skip
theorem b3 : Tryz.f3.body = some c3 := by kernel_rfl
noncomputable def B3 : AC := AC.of (planF 3) c3
noncomputable def q0 : AC := B3.lf
noncomputable def q1 : AC := B3.rt.lf
noncomputable def q2 : AC := B3.rt.rt.lf
noncomputable def q4 : AC := B3.rt.rt.rt.lf
noncomputable def q5 : AC := B3.rt.rt.rt.rt.lf
noncomputable def q6 : AC := B3.rt.rt.rt.rt.rt
theorem B3_eq : B3 = .seq q0 (.seq q1 (.seq q2 (.seq q4 (.seq q5 q6)))) := by kernel_rfl
noncomputable def nx (c : AC) (s : St) : St := match ev ST 1000 c s with | some (_, s') => s' | none => s
noncomputable def s0 (n : Nat) : St := ⟨args0 [.i .u8 (.ofNat n)], ⟨0, .e⟩, []⟩
noncomputable def s1 (n : Nat) : St := nx q0 (s0 n)
noncomputable def s2 (n : Nat) : St := nx q1 (s1 n)
noncomputable def s3 (n : Nat) : St := nx q2 (s2 n)
noncomputable def s4 (n : Nat) : St := nx q4 (s3 n)
noncomputable def s5 (n : Nat) : St := nx q5 (s4 n)
theorem e0 (n : Nat) : ev ST 1000 q0 (s0 n) = some (.n, s1 n) := by kernel_rfl
theorem e1 (n : Nat) : ev ST 1000 q1 (s1 n) = some (.n, s2 n) := by kernel_rfl
theorem e2 (n : Nat) : ev ST 1000 q2 (s2 n) = some (.n, s3 n) := by kernel_rfl
theorem e4 (n : Nat) : ev ST 1000 q4 (s3 n) = some (.n, s4 n) := by kernel_rfl
theorem e5 (n : Nat) : ev ST 1000 q5 (s4 n) = some (.n, s5 n) := by kernel_rfl
theorem v22 (n : Nat) : (s5 n).σ.get 4 = .i .i64 (wr .i64 (addI (.ofNat 2) (Int.tmod (wr .i64 (.ofNat n)) (.ofNat 8)))) := by kernel_rfl
end Go.Bm

/-! The law's function, on: the rest. -/
open Go Go.Bm Go.Proofs
namespace Go.Bm
set_option maxRecDepth 100000
noncomputable def sK (n k : Nat) : St := ⟨((((((s5 n).σ.set 0 .u).set 19 .u).set 20 .u).set 21 .u).set 22 .u).set 4 (.i .i64 (.ofNat k)), (s5 n).h, (s5 n).d⟩
theorem sK_eq (n k : Nat) : sK n k = sK 0 k := by kernel_rfl
noncomputable def endOk (r : Option (Ex × St)) : Bool := match r with
  | some (.r, s) => match s.d, ress ST s.σ s.h Tryz.f3.results.toList with
    | [], some [.b true] => true
    | _, _ => false
  | _ => false
noncomputable def chkR (k : Nat) : Bool := endOk (ev ST 100000 q6 (sK 0 k))
theorem r2 : chkR 2 = true := by kernel_rfl
theorem r3 : chkR 3 = true := by kernel_rfl
theorem r4 : chkR 4 = true := by kernel_rfl
theorem r5 : chkR 5 = true := by kernel_rfl
theorem r6 : chkR 6 = true := by kernel_rfl
theorem r7 : chkR 7 = true := by kernel_rfl
theorem r8 : chkR 8 = true := by kernel_rfl
theorem r9 : chkR 9 = true := by kernel_rfl
theorem r_all (n : Nat) : chkR (2 + n % 8) = true := by
  have h : n % 8 < 8 := Nat.mod_lt _ (by decide)
  generalize n % 8 = r at h
  rcases r with _ | _ | _ | _ | _ | _ | _ | _ | r
  · exact r2
  · exact r3
  · exact r4
  · exact r5
  · exact r6
  · exact r7
  · exact r8
  · exact r9
  · omega
theorem k_eq (n : Nat) (h : n < 256) : (s5 n).σ.get 4 = .i .i64 (.ofNat (2 + n % 8)) := by
  rw [v22, wr_eq, wr_eq, addI_eq]
  have e1 : IntKind.i64.wrap (Int.ofNat n) = Int.ofNat n := wrap_small _ (by simp) (by simp; omega)
  have e2 : Int.tmod (Int.ofNat n) (Int.ofNat 8) = Int.ofNat (n % 8) := rfl
  rw [e1, e2]
  have e3 : Int.ofNat 2 + Int.ofNat (n % 8) = Int.ofNat (2 + n % 8) := rfl
  rw [e3, wrap_small _ (by simp; omega) (by simp; omega)]
theorem less6 (σ : Tr BV) (x : BV) (h : σ.get 4 = x) : Less ((((((σ.set 0 .u).set 19 .u).set 20 .u).set 21 .u).set 22 .u).set 4 x) σ :=
  Less.put (Less.u (Less.u (Less.u (Less.u (Less.u (Less.refl _) 0) 19) 20) 21) 22) 4 h
theorem rest_ok (n : Nat) (h : n < 256) : ∃ s', endOk (some (.r, s')) = true ∧ ∀ nt, RunOk ST nt q6 (s5 n) .r s' := by
  have hk := r_all n
  unfold chkR at hk
  cases hv : ev ST 100000 q6 (sK 0 (2 + n % 8)) with
  | none => rw [hv] at hk; cases hk
  | some p =>
    obtain ⟨e, s'⟩ := p
    rw [hv] at hk
    have he : e = .r := by
      cases e with
      | r => rfl
      | n => cases hk
      | x i => cases hk
    subst he
    refine ⟨s', hk, fun nt => ?_⟩
    have h1 : RunOk ST nt q6 (sK n (2 + n % 8)) .r s' := by
      rw [sK_eq]; exact RunOk.ev sokT mixed hv
    unfold sK at h1
    exact RunOk.less h1 (less6 _ _ (k_eq n h))
theorem top_ok (n : Nat) (h : n < 256) : ∃ h', CallOk SS 3 [.i .u8 (.ofNat n)] ⟨0, .e⟩ (.b true) h' := by
  obtain ⟨s', hk, hr⟩ := rest_ok n h
  have run : ∀ nt, RunOk ST nt B3 (s0 n) .r s' := fun nt => by
    have a0 : RunOk ST nt q0 (s0 n) .n (s1 n) := RunOk.ev sokT mixed (e0 n)
    have a1 : RunOk ST nt q1 (s1 n) .n (s2 n) := RunOk.ev sokT mixed (e1 n)
    have a2 : RunOk ST nt q2 (s2 n) .n (s3 n) := RunOk.ev sokT mixed (e2 n)
    have a4 : RunOk ST nt q4 (s3 n) .n (s4 n) := RunOk.ev sokT mixed (e4 n)
    have a5 : RunOk ST nt q5 (s4 n) .n (s5 n) := RunOk.ev sokT mixed (e5 n)
    rw [B3_eq]
    exact a0.seq (a1.seq (a2.seq (a4.seq (a5.seq (hr nt)))))
  unfold endOk at hk
  dsimp only at hk
  split at hk
  · rename_i hd hl
    have k : CallOk ST 3 [.i .u8 (.ofNat n)] ⟨0, .e⟩ (.b true) s'.h := CallOk.ofRun sokT (by kernel_rfl : ST.fn 3 = some Tryz.f3) b3 (by kernel_rfl) run hd hl rfl
    exact ⟨_, show CallOk SS _ _ _ _ _ from k⟩
  · cases hk
end Go.Bm
