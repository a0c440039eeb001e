/-
  ROW: AddrMade. The frame is the guide's shell's; the walk is the lifted contract.
-/
import Derived.Test.YtfadnlnmlkemfaaGreatDoorRows
import Derived.Test.YtfadnlnmlkemfaaGreatDoorC11
import Derived.Test.YtfadnlnmlkemfaaGreatDoorAmC
import Derived.Test.YtfadnlnmlkemfaaGreatDoorTie
import Derived.Test.YtfadnlnmlkemfaaGreatDoorCards
import Derived.Lay
import Derived.MakeChecks
import Derived.LaidHandle
import Derived.Stop.Joined
import Derived.SevenTiedAt
import Derived.WalkKit
import Derived.ProofKit
import Derived.OpenShut
import Derived.ShutString


namespace Go.Proofs.YtfadnlnmlkemfaaGreatDoor.addrMade
open Go.Am Go.ChangeShapes Go.WideShapes Go.ChangeAt Go.RowKit
open Go.ChangeMaps (open_string shut_string)
set_option linter.unusedVariables false

theorem own : ownKnob Tryz.prog.godebug = none := by kernel_rfl
theorem laidOut : laidOutB Tryz.prog = true := by kernel_rfl
def laid2 : List (String × DataW Unit) := [("unicode/utf8.acceptRanges", Rows.laid_unicode_utf8_acceptRanges), ("unicode/utf8.first", Rows.laid_unicode_utf8_first)]
theorem door_met (os : Os) (args : Array Value) : laidMetH Tryz.prog laid2 ((World.laidAll Tryz.prog os laid2).forCall (fun _ _ => 0) ⟨#[], args, []⟩).memory :=
  by rw [MakeChecks.laidMetH_plain _ _ _ (by kernel_rfl)]; exact laidMet_laidAll _ (by kernel_rfl) (by kernel_rfl)

set_option maxRecDepth 100000 in
theorem lifted (os : Os) (started : os.Started) (H : Type) (enc : TypeId × Value → H) :
    ReturnsInHanded {} Tryz.checked os 3 .any (fun w args => (Rows.addrMadeSpec.pre enc Tryz.prog Tryz.f3 [] false w args ∧ laidMetH Tryz.prog laid2 w) ∧ sizedMet enc Tryz.prog Tryz.f3 (OpenSpec.ofChange Rows.addrMadeSpec) false w args) (Rows.addrMadeSpec.post enc Tryz.prog Tryz.f3 false true false false) := by
  refine returns_shaped (C := Tryz.checked) (X := fun w _ => laidMetH Tryz.prog laid2 w) own started (by kernel_rfl) Tryz.func3
    (ChangeSpec.witness_shaped (enc := enc) (C := Tryz.checked) (os := os) (X := fun w _ => laidMetH Tryz.prog laid2 w) false (World.laidAll Tryz.prog os laid2) #[.slice none 0 0, .slice none 0 0, .slice none 0 0] 8 (World.laidAll_os _ _ _) (World.shaped_of_ZipB (by kernel_rfl) (by kernel_rfl)) (by kernel_rfl) (by kernel_rfl) (by kernel_rfl) (door_met os _)) ?_
  intro W base args ds gs before hsh hval0 hW hz
  have hval : ∀ (j : Nat) t v, Tryz.f3.params[j]? = some t → args[j]? = some v → Value.okWide Tryz.prog W .any base t v := hval0
  have hW' := hW
  obtain ⟨p, q, hA0, hV, rfl, hfz, hnd⟩ := hW
  have hA : DataW.TrodAll enc Tryz.prog W 0 (fun _ => true) true Tryz.f3.params.toList args.toList ds p := hA0
  rw [Tryz.params3] at hA hval hz
  obtain ⟨v0, vs0, d0, ds0, p0, q0, hargs, rfl, rfl, h0, r0⟩ := trodAll_cons hA
  obtain ⟨v1, vs1, d1, ds1, p1, q1, rfl, rfl, rfl, h1, r1⟩ := trodAll_cons r0
  obtain ⟨v2, vs2, d2, ds2, p2, q2, rfl, rfl, rfl, h2, r2⟩ := trodAll_cons r1
  obtain ⟨rfl, rfl, rfl⟩ := trodAll_nil r2
  obtain rfl : args = #[v0, v1, v2] := by cases args; simp_all
  obtain ⟨rfl, rfl⟩ := trodVars_none hV
  have hlt := hW'.lt
  have h0k := h0
  have h1k := h1
  have h2k := h2
  obtain ⟨x0, k0, bb0, nn0⟩ := open_list (a := .str) Tryz.underlying22 (by kernel_rfl) (.str (by kernel_rfl)) (hval 0 22 v0 rfl rfl) h0
  obtain ⟨x1, k1, bb1, nn1⟩ := open_list (a := .str) Tryz.underlying22 (by kernel_rfl) (.str (by kernel_rfl)) (hval 1 22 v1 rfl rfl) h1
  obtain ⟨x2, k2, bb2, nn2⟩ := open_list (a := .int .u8) Tryz.underlying23 (by kernel_rfl) (.int (by kernel_rfl)) (hval 2 23 v2 rfl rfl) h2
  have b0 : ∀ x ∈ x0, ∀ n ∈ lensB (.str) x, n ≤ reachBytes := fun x hx n hn => of_decide_eq_true (List.all_eq_true.1 hz n (weightsEach_mem (i := 0) rfl rfl (bb0 x hx n hn)))
  have n0 : x0 ≠ [] → ∃ m, x0.length ≤ m ∧ m * Tryz.prog.bytesOf 9 ≤ reachBytes := fun h => let ⟨m, h1, h2⟩ := nn0 h; ⟨m, h1, of_decide_eq_true (List.all_eq_true.1 hz _ (weightsEach_mem (i := 0) rfl rfl h2))⟩
  have b1 : ∀ x ∈ x1, ∀ n ∈ lensB (.str) x, n ≤ reachBytes := fun x hx n hn => of_decide_eq_true (List.all_eq_true.1 hz n (weightsEach_mem (i := 1) rfl rfl (bb1 x hx n hn)))
  have n1 : x1 ≠ [] → ∃ m, x1.length ≤ m ∧ m * Tryz.prog.bytesOf 9 ≤ reachBytes := fun h => let ⟨m, h1, h2⟩ := nn1 h; ⟨m, h1, of_decide_eq_true (List.all_eq_true.1 hz _ (weightsEach_mem (i := 1) rfl rfl h2))⟩
  have b2 : ∀ x ∈ x2, ∀ n ∈ lensB (.int .u8) x, n ≤ reachBytes := fun x hx n hn => of_decide_eq_true (List.all_eq_true.1 hz n (weightsEach_mem (i := 2) rfl rfl (bb2 x hx n hn)))
  have n2 : x2 ≠ [] → ∃ m, x2.length ≤ m ∧ m * Tryz.prog.bytesOf 5 ≤ reachBytes := fun h => let ⟨m, h1, h2⟩ := nn2 h; ⟨m, h1, of_decide_eq_true (List.all_eq_true.1 hz _ (weightsEach_mem (i := 2) rfl rfl h2))⟩
  clear hA0 hval0
  refine (walk_of_FnP2 (f := 3) (args := [.p (.list (wid (.str)) (.dat (.str) x0)), .p (.list (wid (.str)) (.dat (.str) x1)), .p (.list (wid (.int .u8)) (.dat (.int .u8) x2))]) (fn_made12L _ _ _ (fun x hx => Nat.le_trans (b0 x hx _ (List.mem_singleton.2 rfl)) (by decide)) (fun x hx => Nat.le_trans (b1 x hx _ (List.mem_singleton.2 rfl)) (by decide))) W (fun g hg => by obtain rfl : g = 0 := List.mem_singleton.1 hg; exact Go.Proofs.cell_of_shapedOpen_int (zero := #[.int .i64 0]) (t := 3) hsh (of_decide_eq_true (by kernel_rfl)) (by kernel_rfl) rfl (by kernel_rfl) (by kernel_rfl) Tryz.underlying3) (.cons k0 (.cons k1 (.cons k2 .nil)))).mono fun e W' ⟨he, hg⟩ => ?_
  subst he
  exact ⟨_, rfl, post_of_below (pa := (p0 ++ (p1 ++ (p2 ++ [])))) (pv := []) hW' (fun _ _ _ => (trodAll_cons_mk (shut_bool Tryz.underlying4 _) trodAll_mk0)) (fun sp hsp => (trodAll_cons_mk (Go.WideElems.Trod_stays laidOut (by kernel_rfl) (of_decide_eq_true (by kernel_rfl)) h0k (fun x hx => hg.same (hlt x (by simp [hx]))) (fun x hx => hsp x (by simp [hx]))) (trodAll_cons_mk (Go.WideElems.Trod_stays laidOut (by kernel_rfl) (of_decide_eq_true (by kernel_rfl)) h1k (fun x hx => hg.same (hlt x (by simp [hx]))) (fun x hx => hsp x (by simp [hx]))) (trodAll_cons_mk (Go.WideElems.Trod_stays laidOut (by kernel_rfl) (of_decide_eq_true (by kernel_rfl)) h2k (fun x hx => hg.same (hlt x (by simp [hx]))) (fun x hx => hsp x (by simp [hx]))) trodAll_mk0)))) (fun _ _ => rfl) rfl
    hg (RowKit.ok_one (by kernel_rfl) rfl (okWide_bool_mk Tryz.underlying4 _))⟩

theorem over : Rows.addrMadeRow.holds Tryz.pinned (OpenSpec.ofChange Rows.addrMadeSpec) :=
  OpenClaim.holds_of_wide 3 Tryz.f3 rfl rfl rfl rfl rfl rfl rfl ⟨rfl, rfl, rfl, rfl, rfl⟩ rfl rfl rfl rfl rfl (by kernel_rfl) Tryz.func3 (by kernel_rfl)
    (of_decide_eq_true (by kernel_rfl)) (by unfold Func.isWrapper; first | (rw [if_pos (by decide +kernel)]; kernel_rfl) | (rw [if_neg (by decide +kernel)]; exact ⟨rfl, rfl⟩))
    (fun os started H enc _ => lifted os started H enc)

/-- ████ THE STATEMENT: THE TIED CARD ████ -/
theorem proved : Rows.AddrMadeCardSaid :=
  Claim7.holds_tied_plain_at .later [] [.data, .pinned] true (true, "34687b01be7b1272eafc85d1a40692c0f4da6b9b2df8fa0f68d033f050ce426b") true
    over (fun _ h => by cases h) (by kernel_rfl) (fun _ h => by cases h) addrMade_row_tie rfl ⟨rfl, rfl⟩ (by kernel_rfl) rfl
    (fun f fn hf hfn => by
      obtain rfl : f = 3 := Option.some.inj ((show Tryz.prog.funcNamed "pillarbox/pillarboxlaw12.AddrMade" = some 3 by kernel_rfl).symm.trans hf) |>.symm
      obtain rfl : fn = Tryz.f3 := (Option.some.inj (Tryz.func3.symm.trans hfn)).symm
      exact ⟨by kernel_rfl, fun j t ht => by
        rw [Tryz.params3] at ht
        have hm : t ∈ [22, 22, 23] := by simpa using Array.mem_of_getElem? ht
        have hall : ([22, 22, 23].all fun u => !Tryz.prog.wantsStandIn u) = true := by kernel_rfl
        exact (show Tryz.prog.wantsStandIn t = false by simpa using List.all_eq_true.1 hall t hm)⟩)
    (by kernel_rfl)
end Go.Proofs.YtfadnlnmlkemfaaGreatDoor.addrMade
