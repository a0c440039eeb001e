/-
  Lifted functions, and facts about them.
-/
import Derived.Test.YtdjlilhdgnogaaaB3LawBack
import Derived.Test.YtdjlilhdgnogaaaB3PlainF
set_option linter.unusedVariables false
/-! BaseBack. -/
namespace Go.Proofs.Ytdjlilhdgnogaaa
open Go Go.Am
theorem junk_ext : ∀ c ∈ ([13, 10, 32, 33, 45, 95, 46] : List UInt8), junk c = true := by decide +kernel
theorem filter_junk (b : List UInt8) : (b ++ [13, 10, 32, 33, 45, 95, 46]).filter (fun c => !junk c) = b.filter (fun c => !junk c) := by
  rw [List.filter_append]
  have : ([13, 10, 32, 33, 45, 95, 46] : List UInt8).filter (fun c => !junk c) = [] := List.filter_eq_nil_iff.2 fun c hc => by simp [junk_ext c hc]
  rw [this, List.append_nil]
theorem BBack_eq (fuel : Nat) (s t : List UInt8) (e : Nat) (hs : s.length ≤ 3000) (ht : t = encB s) (he : e < 256) : ∀ (f i : Nat) (b : List UInt8), t.length < f + i → i ≤ t.length → b.length ≤ 8 * i → b.filter (fun c => !junk c) = (t.take i).filter (fun c => !junk c) →
    BBack_1 fuel f s (e : Int) t s (0 : Int) (i : Int) b = some true := by
  have hl : t.length = (s.length + 2) / 3 * 4 := by rw [ht, encB_len4]
  intro f
  induction f with
  | zero => intro i b h1 h2; omega
  | succ f ih =>
    intro i b h1 h2 h3 h4
    have em : (e : Int).tmod (9 : Int) = ((e % 9 : Nat) : Int) := by rw [Int.tmod_eq_emod_of_nonneg (by omega)]; rfl
    rw [BBack_1, em]
    by_cases hi : i < t.length
    · rw [if_pos (by simp; omega), if_pos ⟨by decide, ok64 (by omega) (by omega), by omega⟩]
      have step : ∀ b' : List UInt8, b'.length ≤ 8 * i + 7 → b'.filter (fun c => !junk c) = (t.take i).filter (fun c => !junk c) → BBack_2 fuel (BBack_1 fuel f) s (e : Int) t s (0 : Int) (i : Int) b' = some true := by
        intro b' hb1 hb2
        unfold BBack_2
        rw [if_pos ⟨by omega, by simp; omega⟩, if_pos (ok64 (by omega) (by omega))]
        have hg : t.getD (i : Int).toNat 0 = t[i] := by rw [Int.toNat_natCast, List.getD_eq_getElem?_getD, List.getElem?_eq_getElem hi]; rfl
        rw [hg]
        simp only [Int.toNat_natCast, UInt8.ofNat_toNat]
        refine ih (i + 1) _ (by omega) (by omega) (by simp; omega) ?_
        rw [List.take_succ_eq_append_getElem hi, List.filter_append, List.filter_append, hb2]
      split
      · rw [if_pos (by simp; omega)]
        exact step _ (by simp; omega) (by rw [filter_junk]; exact h4)
      · exact step _ (by omega) h4
    · have hi2 : i = t.length := by omega
      have hb : looseB b = s := by
        unfold looseB
        rw [← looseG_strip, h4, hi2, List.take_length, looseG_strip, ht]
        exact loose_enc _ s (Nat.le_refl _)
      have e3 : ((s.length : Int) + 2).tdiv 3 = (((s.length + 2) / 3 : Nat) : Int) := by rw [Int.tdiv_eq_ediv_of_nonneg (by omega)]; push_cast; rfl
      have ht2 : looseB t = s := by rw [ht]; exact looseB_enc s
      rw [if_neg (by simp; omega), hb, ht2, e3]
      rw [if_pos ⟨fun _ => by omega, fun _ => by omega, fun _ => ok64 (by omega) (by omega), fun _ => ⟨by decide, ok64 (by omega) (by omega)⟩, fun _ => ok64 (by omega) (by omega)⟩]
      have e5 : (t.length : Int) = (((s.length + 2) / 3 : Nat) : Int) * 4 := by omega
      rw [e5]; simp
theorem Back_true (s : List UInt8) (e : Int) : FnP Try.prog 6 [.p (.str s), .p (.int .u8 e)] (.p (.bool true)) := fn_Back 5000 s e _ fun ⟨M, vs, hvs⟩ => by
  have he : IntKind.u8.has e := by
    cases hvs with | cons _ h => cases h with | cons h _ => cases h with | p _ _ h => cases h; assumption
  have h1 : 0 ≤ e ∧ e ≤ 255 := by simpa [IntKind.has, IntKind.min, IntKind.max, IntKind.signed, IntKind.bits] using he
  obtain ⟨k, rfl⟩ := Int.eq_ofNat_of_zero_le h1.1
  unfold FBack
  split
  · rfl
  · rename_i h
    simp only [decide_eq_true_eq] at h
    have hl := encB_len4 s
    rw [if_pos (by omega), if_pos (by omega), decB_enc]
    exact BBack_eq 5000 s (encB s) k (by omega) rfl (by omega) 5000 0 [] (by omega) (by omega) (by simp) rfl
end Go.Proofs.Ytdjlilhdgnogaaa
