/-
  A lifted function, or a fact about one.
-/
import Derived.Test.YtnojfkkdihchiaaQLawBack
import Derived.Test.YtnojfkkdihchiaaQPlainC
/-! QuotedBack. -/
namespace Go.Proofs.Ytnojfkkdihchiaa
open Go Go.Am
theorem BBack_eq (fuel : Nat) (s t : List UInt8) (ht : t.length ≤ 1000000) (hdec : decS t = s) : ∀ (f i n : Nat), t.length < f + i → i ≤ t.length → n ≤ i → scanS n (t.drop i) = true →
    BBack_1 fuel f s t (n : Int) (i : Int) = some true := by
  intro f
  induction f with
  | zero => intro i n h1 h2; omega
  | succ f ih =>
    intro i n h1 h2 h3 h4
    cases hd : t.drop i with
    | nil =>
      have hl : t.length ≤ i := by have := congrArg List.length hd; simp at this; omega
      rw [BBack_1, if_neg (by simp; omega), if_pos ht, hdec]
      simp
    | cons c r =>
      obtain ⟨e1, e2, e3⟩ := drop_cons hd
      have ok : ∀ n : Int, 0 ≤ n → n ≤ 10000000 → i64ok n := fun n h h' => i64ok_small (by omega) (by omega)
      rw [hd] at h4
      rw [BBack_1, if_pos (by simp; omega), if_pos (by omega)]
      simp only [Int.toNat_natCast, e1]
      have next : ∀ m : Nat, m ≤ i + 1 → scanS m r = true → BBack_2 fuel (BBack_1 fuel f) s t (m : Int) (i : Int) = some true := by
        intro m hm hsc
        unfold BBack_2
        rw [if_pos (ok _ (by omega) (by omega))]
        have := ih (i + 1) m (by omega) (by omega) hm (by rw [e2]; exact hsc)
        rw [← this]; congr 1
      rw [scanS] at h4
      by_cases h10 : c = 10
      · subst h10
        rw [if_pos rfl] at h4
        rw [if_pos (by simp)]
        exact next 0 (by omega) h4
      · rw [if_neg h10] at h4
        rw [if_neg (by simpa using fun e => h10 (u8_eq (d := 10) |>.1 e))]
        have tail : ∀ m : Nat, m ≤ i + 1 → (if 76 < m ∨ 126 < c.toNat ∨ (c.toNat < 32 ∧ c ≠ 13) then false else scanS m r) = true →
            BBack_3 fuel (BBack_1 fuel f) s t (m : Int) (i : Int) (c.toNat : Int) = some true := by
          intro m hm h
          by_cases hbad : 76 < m ∨ 126 < c.toNat ∨ (c.toNat < 32 ∧ c ≠ 13)
          · rw [if_pos hbad] at h; cases h
          · rw [if_neg hbad] at h
            unfold BBack_3
            rw [if_neg ?_]
            · exact next m hm h
            · intro hh
              simp only [Bool.or_eq_true, Bool.and_eq_true, decide_eq_true_eq, bne_iff_ne] at hh
              refine hbad ?_
              rcases hh with (hh | hh) | hh
              · left; omega
              · right; left; omega
              · right; right; exact ⟨by omega, fun e => hh.2 (by rw [e]; rfl)⟩
        by_cases h13 : c = 13
        · have e13 : (if c ≠ 13 then n + 1 else n) = n := if_neg (fun h => h h13)
          rw [e13] at h4
          rw [if_neg (by rw [h13]; decide)]
          exact tail n (by omega) h4
        · have e13 : (if c ≠ 13 then n + 1 else n) = n + 1 := if_pos h13
          rw [e13] at h4
          rw [if_pos (by simpa using fun e => h13 (u8_eq (d := 13) |>.1 e)), if_pos (ok _ (by omega) (by omega))]
          have := tail (n + 1) (by omega) h4
          rw [← this]; congr 1
theorem Back_true (s : List UInt8) : FnP Try.prog 4 [.p (.str s)] (.p (.bool true)) := fn_Back 1000001 s _ fun _ => by
  unfold FBack
  split
  · rfl
  · rename_i h
    simp at h
    have hl := enc_len s 0
    rw [if_pos (by omega)]
    exact BBack_eq 1000001 s (encL 0 s) (by omega) (decS_enc s 0) 1000001 0 0 (by omega) (by omega) (by omega) (scan_enc s 0 (by omega))
end Go.Proofs.Ytnojfkkdihchiaa
