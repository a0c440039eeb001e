/-
  A lifted function, or a fact about one.
-/
import Derived.Test.YtnojfkkdihchiaaQLawHex
import Derived.Test.YtnojfkkdihchiaaQPlainC
/-! QuotedHex. -/
namespace Go.Proofs.Ytnojfkkdihchiaa
open Go Go.Am
def hexd2 (n : Nat) : UInt8 := ([48, 49, 50, 51, 52, 53, 54, 55, 56, 57, 97, 98, 99, 100, 101, 102] : List UInt8).getD n 0
theorem hexd2_fold (n : Nat) : ([48, 49, 50, 51, 52, 53, 54, 55, 56, 57, 97, 98, 99, 100, 101, 102] : List UInt8).getD n 0 = hexd2 n := rfl
theorem hex2_ok (c : UInt8) : isHex (hexd2 (c.toNat / 16)) ∧ isHex (hexd2 (c.toNat % 16)) ∧ hexB (hexd2 (c.toNat / 16)) (hexd2 (c.toNat % 16)) = c := by
  have h := c.toNat_lt
  have key : ∀ n : Fin 256, isHex (hexd2 (n.val / 16)) ∧ isHex (hexd2 (n.val % 16)) ∧ hexB (hexd2 (n.val / 16)) (hexd2 (n.val % 16)) = UInt8.ofNat n.val := by decide +kernel
  have := key ⟨c.toNat, h⟩
  rw [UInt8.ofNat_toNat] at this
  exact this
def all1 : List UInt8 → List UInt8
  | [] => []
  | c :: r => [61, hexD (c.toNat / 16), hexD (c.toNat % 16)] ++ all1 r
def all2 : List UInt8 → List UInt8
  | [] => []
  | c :: r => [61, hexd2 (c.toNat / 16), hexd2 (c.toNat % 16)] ++ all2 r
theorem all1_dec : ∀ s, decS (all1 s) = s
  | [] => decS_nil
  | c :: r => by
    obtain ⟨h1, h2, h3⟩ := hex_ok c
    show decS (61 :: _ :: _ :: all1 r) = _
    rw [decS_hex h1 h2, h3, all1_dec r]
theorem all2_dec : ∀ s, decS (all2 s) = s
  | [] => decS_nil
  | c :: r => by
    obtain ⟨h1, h2, h3⟩ := hex2_ok c
    show decS (61 :: _ :: _ :: all2 r) = _
    rw [decS_hex h1 h2, h3, all2_dec r]
theorem all1_len (s : List UInt8) : (all1 s).length = 3 * s.length := by induction s with | nil => rfl | cons c r ih => simp [all1, ih]; omega
theorem all2_len (s : List UInt8) : (all2 s).length = 3 * s.length := by induction s with | nil => rfl | cons c r ih => simp [all2, ih]; omega

theorem BHex_eq (fuel : Nat) (s : List UInt8) (hs : s.length ≤ 1000) : ∀ (f i : Nat) (a b : List UInt8), s.length < f + i → i ≤ s.length → a.length = 3 * i → b.length = 3 * i →
    a ++ all1 (s.drop i) = all1 s → b ++ all2 (s.drop i) = all2 s → BHex_1 fuel f s (i : Int) a b = some true := by
  intro f
  induction f with
  | zero => intro i a b h1 h2; omega
  | succ f ih =>
    intro i a b h1 h2 h3 h4 h5 h6
    cases hd : s.drop i with
    | nil =>
      have hl : s.length ≤ i := by have := congrArg List.length hd; simp at this; omega
      rw [hd] at h5 h6
      have e1 : a = all1 s := by rw [← h5]; simp [all1]
      have e2 : b = all2 s := by rw [← h6]; simp [all2]
      have d1 : decS a = s := by rw [e1, all1_dec]
      have d2 : decS b = s := by rw [e2, all2_dec]
      rw [BHex_1, if_neg (by simp; omega), d1, d2]
      rw [if_pos ⟨by omega, fun _ => by omega⟩]
      simp
    | cons c r =>
      obtain ⟨e1, e2, e3⟩ := drop_cons hd
      have hc := c.toNat_lt
      rw [BHex_1, if_pos (by simp; omega)]
      simp only [Int.toNat_natCast, e1, tdiv16, tmod16, UInt8.ofNat_toNat, hexD_fold, hexd2_fold, u61]
      rw [if_pos ⟨by omega, by omega, by simp; omega, by omega, by omega, by simp; omega, by simp; omega⟩, if_pos ⟨by omega, by omega, by simp; omega, by omega, by omega, by simp; omega, by simp; omega⟩, if_pos (i64ok_small (by omega) (by omega))]
      have := ih (i + 1) (a ++ [61, hexD (c.toNat / 16), hexD (c.toNat % 16)]) (b ++ [61, hexd2 (c.toNat / 16), hexd2 (c.toNat % 16)]) (by omega) (by omega) (by simp; omega) (by simp; omega)
        (by rw [e2, ← h5, hd]; simp [all1]) (by rw [e2, ← h6, hd]; simp [all2])
      rw [← this]; congr 1
theorem Hex_true (s : List UInt8) : FnP Try.prog 6 [.p (.str s)] (.p (.bool true)) := fn_Hex 1001 s _ fun _ => by
  unfold FHex
  split
  · rfl
  · rename_i h
    simp at h
    exact BHex_eq 1001 s (by omega) 1001 0 [] [] (by omega) (by omega) (by simp) (by simp) (by simp) (by simp)
end Go.Proofs.Ytnojfkkdihchiaa
