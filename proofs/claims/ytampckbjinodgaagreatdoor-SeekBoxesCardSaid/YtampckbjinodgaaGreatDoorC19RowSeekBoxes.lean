/-
  ROW: SeekBoxes. The frame is the guide's shell's; the walk is the lifted contract.
-/
import Derived.Test.YtampckbjinodgaaGreatDoorRows
import Derived.Test.YtampckbjinodgaaGreatDoorC19
import Derived.Test.YtampckbjinodgaaGreatDoorAmC
import Derived.Test.YtampckbjinodgaaGreatDoorTie
import Derived.Test.YtampckbjinodgaaGreatDoorCards
import Derived.Lay
import Derived.MakeChecks
import Derived.LaidHandle
import Derived.Stop.Joined
import Derived.SevenTiedAt
import Derived.WalkKit
import Derived.ProofKit
import Derived.OpenShut
import Derived.ShutString


namespace Go.Proofs.YtampckbjinodgaaGreatDoor.seekBoxes
open Go.Am Go.ChangeShapes Go.WideShapes Go.ChangeAt Go.RowKit
open Go.ChangeMaps (open_string shut_string)
set_option linter.unusedVariables false

theorem own : ownKnob Tryz.prog.godebug = none := by kernel_rfl
theorem laidOut : laidOutB Tryz.prog = true := by kernel_rfl
def laid2 : List (String × DataW Unit) := [("unicode/utf8.acceptRanges", Rows.laid_unicode_utf8_acceptRanges), ("unicode/utf8.first", Rows.laid_unicode_utf8_first)]
theorem door_met (os : Os) (args : Array Value) : laidMetH Tryz.prog laid2 ((World.laidAll Tryz.prog os laid2).forCall (fun _ _ => 0) ⟨#[], args, []⟩).memory :=
  by rw [MakeChecks.laidMetH_plain _ _ _ (by kernel_rfl)]; exact laidMet_laidAll _ (by kernel_rfl) (by kernel_rfl)

set_option maxRecDepth 100000 in
theorem lifted (os : Os) (started : os.Started) (H : Type) (enc : TypeId × Value → H) :
    ReturnsInHanded {} Tryz.checked os 6 .any (fun w args => (Rows.seekBoxesSpec.pre enc Tryz.prog Tryz.f6 [] false w args ∧ laidMetH Tryz.prog laid2 w) ∧ sizedMet enc Tryz.prog Tryz.f6 (OpenSpec.ofChange Rows.seekBoxesSpec) false w args) (Rows.seekBoxesSpec.post enc Tryz.prog Tryz.f6 false true false false) := by
  refine returns_shaped (C := Tryz.checked) (X := fun w _ => laidMetH Tryz.prog laid2 w) own started (by kernel_rfl) Tryz.func6
    (ChangeSpec.witness_shaped (enc := enc) (C := Tryz.checked) (os := os) (X := fun w _ => laidMetH Tryz.prog laid2 w) false (World.laidAll Tryz.prog os laid2) #[.slice none 0 0, .int .u8 0] 8 (World.laidAll_os _ _ _) (World.shaped_of_ZipB (by kernel_rfl) (by kernel_rfl)) (by kernel_rfl) (by kernel_rfl) (by kernel_rfl) (door_met os _)) ?_
  intro W base args ds gs before hsh hval0 hW hz
  have hval : ∀ (j : Nat) t v, Tryz.f6.params[j]? = some t → args[j]? = some v → Value.okWide Tryz.prog W .any base t v := hval0
  have hW' := hW
  obtain ⟨p, q, hA0, hV, rfl, hfz, hnd⟩ := hW
  have hA : DataW.TrodAll enc Tryz.prog W 0 (fun _ => true) true Tryz.f6.params.toList args.toList ds p := hA0
  rw [Tryz.params6] at hA hval hz
  obtain ⟨v0, vs0, d0, ds0, p0, q0, hargs, rfl, rfl, h0, r0⟩ := trodAll_cons hA
  obtain ⟨v1, vs1, d1, ds1, p1, q1, rfl, rfl, rfl, h1, r1⟩ := trodAll_cons r0
  obtain ⟨rfl, rfl, rfl⟩ := trodAll_nil r1
  obtain rfl : args = #[v0, v1] := by cases args; simp_all
  obtain ⟨rfl, rfl⟩ := trodVars_none hV
  have hlt := hW'.lt
  have h0k := h0
  obtain ⟨x0, k0, bb0, nn0⟩ := open_list (a := .bool) Tryz.underlying43 (by kernel_rfl) (.bool (by kernel_rfl)) (hval 0 43 v0 rfl rfl) h0
  obtain ⟨x1, rfl, rfl, rfl, w1⟩ := open_int Tryz.underlying5 (hval 1 5 v1 rfl rfl) h1
  have b0 : ∀ x ∈ x0, ∀ n ∈ lensB (.bool) x, n ≤ reachBytes := fun x hx n hn => of_decide_eq_true (List.all_eq_true.1 hz n (weightsEach_mem (i := 0) rfl rfl (bb0 x hx n hn)))
  have n0 : x0 ≠ [] → ∃ m, x0.length ≤ m ∧ m * Tryz.prog.bytesOf 4 ≤ reachBytes := fun h => let ⟨m, h1, h2⟩ := nn0 h; ⟨m, h1, of_decide_eq_true (List.all_eq_true.1 hz _ (weightsEach_mem (i := 0) rfl rfl h2))⟩
  clear hA0 hval0
  refine (walk_of_FnP2 (f := 6) (args := [.p (.list (wid (.bool)) (.dat (.bool) x0)), .p (.int .u8 x1)]) (fn_boxes ((List.take 9 x0).length + 1) _ _ _ fun _ => boxes_eq _ _ (u8k (has_wf w1))) W (fun g hg => by obtain rfl : g = 0 := List.mem_singleton.1 hg; exact Go.Proofs.cell_of_shapedOpen_int (zero := #[.int .i64 0]) (t := 3) hsh (of_decide_eq_true (by kernel_rfl)) (by kernel_rfl) rfl (by kernel_rfl) (by kernel_rfl) Tryz.underlying3) (.cons k0 (.cons (int_argM _ (has_wf w1)) .nil))).mono fun e W' ⟨he, hg⟩ => ?_
  subst he
  exact ⟨_, rfl, post_of_below (pa := (p0 ++ ([] ++ []))) (pv := []) hW' (fun _ _ _ => (trodAll_cons_mk (shut_bool Tryz.underlying4 _) trodAll_mk0)) (fun sp hsp => (trodAll_cons_mk (Go.WideElems.Trod_stays laidOut (by kernel_rfl) (of_decide_eq_true (by kernel_rfl)) h0k (fun x hx => hg.same (hlt x (by simp [hx]))) (fun x hx => hsp x (by simp [hx]))) (trodAll_cons_mk (shut_int Tryz.underlying5 w1) trodAll_mk0))) (fun _ _ => rfl) rfl
    hg (RowKit.ok_one (by kernel_rfl) rfl (okWide_bool_mk Tryz.underlying4 _))⟩

theorem over : Rows.seekBoxesRow.holds Tryz.pinned (OpenSpec.ofChange Rows.seekBoxesSpec) :=
  OpenClaim.holds_of_wide 6 Tryz.f6 rfl rfl rfl rfl rfl rfl rfl ⟨rfl, rfl, rfl, rfl, rfl⟩ rfl rfl rfl rfl rfl (by kernel_rfl) Tryz.func6 (by kernel_rfl)
    (of_decide_eq_true (by kernel_rfl)) (by unfold Func.isWrapper; first | (rw [if_pos (by decide +kernel)]; kernel_rfl) | (rw [if_neg (by decide +kernel)]; exact ⟨rfl, rfl⟩))
    (fun os started H enc _ => lifted os started H enc)

/-- ████ THE STATEMENT: THE TIED CARD ████ -/
theorem proved : Rows.SeekBoxesCardSaid :=
  Claim7.holds_tied_plain_at .later [] [.data, .pinned] true (true, "8e2a9972be6b11311d427d95e051dc8f61394c1ad94614f72db94521fbfbf98d") true
    over (fun _ h => by cases h) (by kernel_rfl) (fun _ h => by cases h) seekBoxes_row_tie rfl ⟨rfl, rfl⟩ (by kernel_rfl) rfl
    (fun f fn hf hfn => by
      obtain rfl : f = 6 := Option.some.inj ((show Tryz.prog.funcNamed "pillarbox/pillarboxlaw19.SeekBoxes" = some 6 by kernel_rfl).symm.trans hf) |>.symm
      obtain rfl : fn = Tryz.f6 := (Option.some.inj (Tryz.func6.symm.trans hfn)).symm
      exact ⟨by kernel_rfl, fun j t ht => by
        rw [Tryz.params6] at ht
        have hm : t ∈ [43, 5] := by simpa using Array.mem_of_getElem? ht
        have hall : ([43, 5].all fun u => !Tryz.prog.wantsStandIn u) = true := by kernel_rfl
        exact (show Tryz.prog.wantsStandIn t = false by simpa using List.all_eq_true.1 hall t hm)⟩)
    (by kernel_rfl)
end Go.Proofs.YtampckbjinodgaaGreatDoor.seekBoxes
