/-
  A lifted function, or a fact about one.
-/
import Derived.Test.YtnojfkkdihchiaaQLawBad
import Derived.Test.YtnojfkkdihchiaaQPlainC
/-! QuotedBad. -/
namespace Go.Proofs.Ytnojfkkdihchiaa
open Go Go.Am
theorem hexd_hex {n : Nat} (h : n < 256) : hexdS (n : Int) = decide (isHex (UInt8.ofNat n)) := by
  have key : ∀ n : Fin 256, hexdS ((n.val : Nat) : Int) = decide (isHex (UInt8.ofNat n.val)) := by decide +kernel
  exact key ⟨n, h⟩
theorem dec_x : decS [120, 61] = [120, 61] := by rw [decS_ne (by decide), decS_1]
theorem dec_xA : decS [120, 61, 65] = [120, 61, 65] := by rw [decS_ne (by decide), decS_2, if_neg (by decide), decS_ne (by decide), decS_nil]
theorem dec_r : decS [61, 13] = [61, 13] := by rw [decS_2, if_neg (by decide), decS_ne (by decide), decS_nil]
theorem FBad_eq (c d : Int) (hc : 0 ≤ c ∧ c < 256) (hd : 0 ≤ d ∧ d < 256) : FBad 0 c d = some true := by
  obtain ⟨x, rfl⟩ := Int.eq_ofNat_of_zero_le hc.1
  obtain ⟨y, rfl⟩ := Int.eq_ofNat_of_zero_le hd.1
  have hx : x < 256 := by omega
  have hy : y < 256 := by omega
  unfold FBad
  rw [hexd_hex hx, hexd_hex hy]
  simp only [Int.toNat_natCast]
  generalize hX : UInt8.ofNat x = X
  generalize hY : UInt8.ofNat y = Y
  have xX : X.toNat = x := by rw [← hX, UInt8.toNat_ofNat']; exact Nat.mod_eq_of_lt hx
  have yY : Y.toNat = y := by rw [← hY, UInt8.toNat_ofNat']; exact Nat.mod_eq_of_lt hy
  split
  · rfl
  · rename_i hn
    simp only [Bool.or_eq_true, Bool.and_eq_true, decide_eq_true_eq, beq_iff_eq, not_or, not_and] at hn
    obtain ⟨⟨⟨⟨h1, h2⟩, h3⟩, h4⟩, h5⟩ := hn
    have hX10 : X ≠ 10 := by intro e; rw [e] at xX; exact h2 (by rw [← xX]; rfl)
    have hX13 : X ≠ 13 := by intro e; rw [e] at xX; exact h3 (by rw [← xX]; rfl)
    have hX61 : X ≠ 61 := by intro e; rw [e] at xX; exact h4 (by rw [← xX]; rfl)
    have hY61 : Y ≠ 61 := by intro e; rw [e] at yY; exact h5 (by rw [← yY]; rfl)
    have e : decS ([120, 61] ++ [X, Y]) = [120, 61] ++ [X, Y] := by
      show decS (120 :: 61 :: X :: Y :: []) = _
      rw [decS_ne (by decide), decS_3, if_neg (fun h => h1 h.1 h.2), if_neg hX10, if_neg (fun h => hX13 h.1), decS_ne hX61, decS_ne hY61, decS_nil]; rfl
    rw [e, dec_x, dec_xA, dec_r, if_pos (by unfold lenok; simp), if_pos ⟨by simp, fun _ => by simp, fun _ => by simp, fun _ => by simp⟩]
    simp
theorem u8_has {c : Int} (h : IntKind.u8.has c) : 0 ≤ c ∧ c < 256 := by
  have h1 : IntKind.u8.min = 0 := rfl
  have h2 : IntKind.u8.max = 255 := rfl
  unfold IntKind.has at h
  rw [h1, h2] at h
  omega
theorem has_wf {k : IntKind} {n : Int} (h : (Lit.int k n).wf = true) : k.has n := by
  simp only [Lit.wf, Bool.and_eq_true, decide_eq_true_eq] at h
  exact h
theorem Bad_true (c d : Int) (hc : IntKind.u8.has c) (hd : IntKind.u8.has d) : FnP Try.prog 7 [.p (.int .u8 c), .p (.int .u8 d)] (.p (.bool true)) :=
  fn_Bad 0 c d _ fun _ => FBad_eq c d (u8_has hc) (u8_has hd)
end Go.Proofs.Ytnojfkkdihchiaa
