/-
  Lifted functions, and facts about them.
-/
import Derived.Test.YtampckbjinodgaaGreatDoorRows
import Derived.Test.YtampckbjinodgaaGreatDoorAmC
import Derived.Test.YtampckbjinodgaaGreatDoorC01
import Derived.Test.YtampckbjinodgaaGreatDoorC17
namespace Go.Proofs.YtampckbjinodgaaGreatDoor
open Go Go.Am
set_option linter.unusedVariables false
/-! Sizes and times are between their bounds. -/
theorem right1 (k n : Int) (nm sx : List UInt8) (st : List (Int × Int)) (h1 : 1 ≤ k) (h2 : k ≤ 16) : rightP [(k, (n, (nm, (sx, (st, ([] : List Int))))))] = true := by
  unfold rightP
  rw [if_neg (by simp)]
  show (match goR 0 [(k, (n, (nm, (sx, (st, ([] : List Int))))))] [0] with | none => false | some acc => (acc.take 0).all fun x => x == 1) = true
  rw [goR, if_neg (by show ¬ (k < 1 ∨ k > 16); omega)]
  rfl
theorem h1ok1 (m : MailT) (k n : Int) (nm sx : List UInt8) (st : List (Int × Int)) (hx : m.2.2.1.length ≤ 1000000) (hm : m.2.2.2.2.2.1.length ≤ 1000000) (hs : st.length ≤ 1000000) (hk : kind1 k = true) : h1ok m (k, (n, (nm, (sx, (st, ([] : List Int)))))) :=
  ⟨⟨by simp, by intro t ht; rw [List.mem_singleton.1 ht]; exact Nat.zero_le _⟩, hx, hk, hm, hs⟩
theorem h1F_eq (m : MailT) (k n : Int) (nm sx : List UInt8) (st : List (Int × Int)) (h1 : 1 ≤ k) (h2 : k ≤ 16) : h1F m (k, (n, (nm, (sx, (st, ([] : List Int)))))) = hold1 (openP m) (k, (n, (nm, (sx, (st, ([] : List Int)))))) := by
  rw [h1F, right1 k n nm sx st h1 h2, Bool.true_and]
theorem u8k {n : Int} (h : IntKind.u8.has n) : 0 ≤ n ∧ n ≤ 255 := by
  unfold IntKind.has at h
  simp [IntKind.min, IntKind.max, IntKind.bits, IntKind.signed] at h
  omega




end Go.Proofs.YtampckbjinodgaaGreatDoor
