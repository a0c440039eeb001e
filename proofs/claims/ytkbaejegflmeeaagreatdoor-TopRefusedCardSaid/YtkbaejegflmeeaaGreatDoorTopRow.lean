/-
  The call of TopRefused returns true from every world that the row speaks of. Conditions: those of the row's own reading.
-/
import Derived.Test.YtkbaejegflmeeaaGreatDoorRows
import Derived.Lay
import Derived.MakeChecks
import Derived.LaidHandle
import Derived.Stop.Joined
import Derived.WalkKit
import Derived.ProofKit
import Derived.OpenShut
import Derived.ShutString
import Derived.Test.YtkbaejegflmeeaaGreatDoorBmD
import Derived.Test.YtkbaejegflmeeaaGreatDoorTopI
namespace Go.Proofs.YtkbaejegflmeeaaGreatDoor.topRefused
open Go.Bm Go.ChangeShapes Go.WideShapes Go.ChangeAt Go.RowKit
set_option linter.unusedVariables false
set_option maxRecDepth 100000

theorem own : ownKnob Tryz.prog.godebug = none := by kernel_rfl
def laid2 : List (String × DataW Unit) := [("unicode/utf8.first", Rows.laid_unicode_utf8_first), ("unicode/utf8.acceptRanges", Rows.laid_unicode_utf8_acceptRanges), ("internal/strconv.uint64pow10", Rows.laid_internal_strconv_uint64pow10), ("math/bits.deBruijn32tab", Rows.laid_math_bits_deBruijn32tab), ("math/bits.deBruijn64tab", Rows.laid_math_bits_deBruijn64tab), ("unicode.CaseRanges", Rows.laid_unicode_CaseRanges)]
theorem hf (os : Os) : (World.holding Tryz.prog os ⟨#[], #[], []⟩).layFits Tryz.prog laid2 [] = true := by kernel_rfl
theorem hi (os : Os) : (World.holding Tryz.prog os ⟨#[], #[], []⟩).layIfaces Tryz.prog laid2 (World.laidAll Tryz.prog os laid2) = true := by kernel_rfl
theorem plain (w : World) : laidMetH Tryz.prog laid2 w = laidMet Tryz.prog laid2 w := MakeChecks.laidMetH_plain _ _ _ (by kernel_rfl)
theorem door_met (os : Os) (args : Array Value) : laidMetH Tryz.prog laid2 ((World.laidAll Tryz.prog os laid2).forCall (fun _ _ => 0) ⟨#[], args, []⟩).memory := by
  rw [plain]
  exact laidMet_laidAll args (hf os) (hi os)
def pows : List Int := [1, 10, 100, 1000, 10000, 100000, 1000000, 10000000, 100000000, 1000000000, 10000000000, 100000000000, 1000000000000, 10000000000000, 100000000000000, 1000000000000000, 10000000000000000, 100000000000000000, 1000000000000000000, 10000000000000000000]
theorem pow_in : ("internal/strconv.uint64pow10", Lib.tabData .u64 pows) ∈ laid2 := show _ ∈ laid2 from (List.Mem.tail _ (List.Mem.tail _ (List.Mem.head _)))
/-- The table of the powers of ten. -/
theorem pow_met {W W0 : World} (hW : W0.heap = W.heap) (hX : laidMetH Tryz.prog laid2 W0) : ∀ g l, SS.gt g = some l → ∃ e m, W.heap[g]? = some (.cells (l.map fun z => Value.int .u64 (.ofNat z)).toArray e m) := by
  intro g l hg
  have hg : gtF g = some l := hg
  unfold gtF at hg
  split at hg
  · cases hg
    rw [plain] at hX
    exact tab_of_laid (P := Tryz.prog) (l := laid2) (name := "internal/strconv.uint64pow10") (zs := pows) (g := 4) (t := 713) (n := 20) (e := 633) hW hX pow_in (by kernel_rfl) (by kernel_rfl) (by kernel_rfl) (by kernel_rfl) (by kernel_rfl) (by kernel_rfl)
  · cases hg
def a0 : Array Value := #[.int .u8 0]
noncomputable def w0 (os : Os) : World := World.laidAll Tryz.prog os laid2
noncomputable def w1 (os : Os) : World := (w0 os).forCall (fun _ _ => 0) ⟨#[], a0, []⟩
theorem shaped1 (os : Os) : (w1 os).variablesZipB Tryz.prog = true := by kernel_rfl
theorem shaped2 (os : Os) : ((w1 os).heap.toList.drop Tryz.prog.globals.size).take ((begin Tryz.prog (fun _ _ => 0) default).world.heap.size - Tryz.prog.globals.size) = (begin Tryz.prog (fun _ _ => 0) default).world.heap.toList.drop Tryz.prog.globals.size := by kernel_rfl
theorem shaped (os : Os) : (w1 os).Shaped Tryz.prog := World.shaped_of_ZipB (shaped1 os) (shaped2 os)
theorem wide (os : Os) : Input.okWideB Tryz.prog (w1 os) 3 ⟨#[], a0, []⟩ = true := by kernel_rfl
theorem preB (os : Os) (H : Type) (enc : TypeId × Value → H) : Rows.topRefusedSpec.preB enc Tryz.prog Tryz.f3 [] false (w1 os).memory a0 8 = true := by kernel_rfl
theorem sizedB (os : Os) (H : Type) (enc : TypeId × Value → H) : Rows.topRefusedSpec.sizedB enc Tryz.prog Tryz.f3 false (w1 os).memory a0 8 = true := by kernel_rfl
theorem noInit : Tryz.checked.prog.inits.idxOf? 3 = none := by kernel_rfl
theorem calls3 : callable SS.P 3 = true := by kernel_rfl
theorem has_wf {k : IntKind} {n : Int} (h : (Lit.int k n).wf = true) : k.has n := by
  simp only [Lit.wf, Bool.and_eq_true, decide_eq_true_eq] at h
  exact h
theorem walk {x : Int} (hx : (Lit.int .u8 x).wf = true) (W : World) (hg : ∀ g l, SS.gt g = some l → ∃ e m, W.heap[g]? = some (.cells (l.map fun z => Value.int .u64 (.ofNat z)).toArray e m)) :
    Calls Tryz.prog 3 #[.int .u8 x] W fun e W' => e = .returned (.bool true) ∧ Below W.heap.size W W' := by
  have h := has_wf hx
  simp only [IntKind.has, IntKind.min, IntKind.max, IntKind.signed, IntKind.bits] at h
  obtain ⟨n, rfl⟩ : ∃ n : Nat, x = Int.ofNat n := ⟨x.toNat, by simp at h ⊢; omega⟩
  obtain ⟨h', hk⟩ := top_ok n (by simp at h; omega)
  exact row_walk hk calls3 (vs := [.int .u8 (Int.ofNat n)]) (.cons (.i _ _) .nil) W hg

theorem lifted (os : Os) (started : os.Started) (H : Type) (enc : TypeId × Value → H) :
    ReturnsInHanded {} Tryz.checked os 3 .any (fun w args => (Rows.topRefusedSpec.pre enc Tryz.prog Tryz.f3 [] false w args ∧ laidMetH Tryz.prog laid2 w) ∧ sizedMet enc Tryz.prog Tryz.f3 (OpenSpec.ofChange Rows.topRefusedSpec) false w args) (Rows.topRefusedSpec.post enc Tryz.prog Tryz.f3 false true false false) := by
  refine returns_shaped (C := Tryz.checked) (X := fun w _ => laidMetH Tryz.prog laid2 w) own started noInit Tryz.func3
    (ChangeSpec.witness_shaped (enc := enc) (C := Tryz.checked) (os := os) (X := fun w _ => laidMetH Tryz.prog laid2 w) false (w0 os) a0 8 (World.laidAll_os _ _ _) (shaped os) (wide os) (preB os H enc) (sizedB os H enc) (door_met os _)) ?_
  intro W base args ds gs before hsh hX hval0 hW hz
  have hval : ∀ (j : Nat) t v, Tryz.f3.params[j]? = some t → args[j]? = some v → Value.okWide Tryz.prog W .any base t v := hval0
  have hW' := hW
  obtain ⟨p, q, hA0, hV, rfl, hfz, hnd⟩ := hW
  have hA : DataW.TrodAll enc Tryz.prog W 0 (fun _ => true) true Tryz.f3.params.toList args.toList ds p := hA0
  rw [Tryz.params3] at hA hval hz
  obtain ⟨v0, vs0, d0, ds0, p0, q0, hargs, rfl, rfl, h0, r0⟩ := trodAll_cons hA
  obtain ⟨rfl, rfl, rfl⟩ := trodAll_nil r0
  obtain rfl : args = #[v0] := by cases args; simp_all
  obtain ⟨rfl, rfl⟩ := trodVars_none hV
  have hlt := hW'.lt
  obtain ⟨x0, rfl, rfl, rfl, wf0⟩ := open_int Tryz.underlying5 (hval 0 5 v0 rfl rfl) h0
  clear hA0 hval0
  obtain ⟨W0, hW0, hX0⟩ := hX
  refine (walk wf0 W (pow_met hW0 hX0)).mono fun e W' ⟨he, hg⟩ => ?_
  subst he
  exact ⟨_, rfl, post_of_below (pa := ([] ++ [])) (pv := []) hW' (fun _ _ _ => (trodAll_cons_mk (shut_bool Tryz.underlying4 _) trodAll_mk0)) (fun sp hsp => (trodAll_cons_mk (shut_int Tryz.underlying5 wf0) trodAll_mk0)) (fun _ _ => rfl) rfl
    hg (RowKit.ok_one (by kernel_rfl) rfl (okWide_bool_mk Tryz.underlying4 _))⟩
end Go.Proofs.YtkbaejegflmeeaaGreatDoor.topRefused
