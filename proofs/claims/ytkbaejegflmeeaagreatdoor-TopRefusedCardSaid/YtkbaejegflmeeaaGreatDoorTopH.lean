/-
  Runs of this program on known data, checked by the kernel; no condition of its own.
-/
import Derived.Test.YtkbaejegflmeeaaGreatDoorTopB
import Derived.Test.YtkbaejegflmeeaaGreatDoorTopG0
import Derived.Test.YtkbaejegflmeeaaGreatDoorTopG1
/-! awake tells true. -/
open Go Go.Bm Go.Proofs
namespace Go.Bm
theorem sokA : SOk SA := by
  refine sok extA fun f k h => ?_
  unfold extA at h
  split at h
  · rename_i h1
    cases h
    obtain rfl := Nat.eq_of_beq_eq_true h1
    refine .inr (tab_ok fun e he => ?_)
    simp only [tabA5, List.mem_cons, List.not_mem_nil, or_false] at he
    rcases he with rfl | rfl | rfl
    · exact chk_ok sok0 mixed ca0
    · exact chk_ok sok0 mixed ca1
    · exact chk_ok sok0 mixed ca2
  · rename_i h1 _
    cases h
    obtain rfl := Nat.eq_of_beq_eq_true h1
    refine .inr (tab_ok fun e he => ?_)
    simp only [tabA43, List.mem_cons, List.not_mem_nil, or_false] at he
    obtain rfl := he
    exact chk_ok sok0 mixed ca3
  · exact .inl h
theorem awake_ok (h : Hp) : CallOk SS 10 [] h (.b true) h := by
  have k := awake_run
  unfold chkT at k
  split at k
  · rename_i h1 hv
    have k2 : CallOk SA 10 [] ⟨0, .e⟩ (.b true) h1 := call_ok sokA mixed _ hv
    exact CallOk.beside rfl (show CallOk SS 10 [] ⟨0, .e⟩ (.b true) h1 from k2) h
  · cases k
end Go.Bm
