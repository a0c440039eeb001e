/-
  Lifted functions, and facts about them.
-/
import Derived.Test.YtdjlilhdgnogaaaB3LawLet
import Derived.Test.YtdjlilhdgnogaaaB3PlainF
set_option linter.unusedVariables false
/-! BaseLetters. -/
namespace Go.Proofs.Ytdjlilhdgnogaaa
open Go Go.Am
theorem BLet_end (fuel : Nat) (s t : List UInt8) (hs : s.length ≤ 3000) (ht : t.length ≤ 100000) : ∀ (f i e p : Nat), p < f → i + p = t.length → t.drop i = List.replicate p 61 → e ≤ 100000 → e + p = (3 - s.length % 3) % 3 →
    BLet_1 fuel f s t (e : Int) (i : Int) = some true := by
  intro f
  induction f with
  | zero => intro i e p h1; omega
  | succ f ih =>
    intro i e p h1 h2 h3 h4 h5
    rw [BLet_1]
    cases p with
    | zero =>
      have e3 : (s.length : Int).tmod (3 : Int) = ((s.length % 3 : Nat) : Int) := by rw [Int.tmod_eq_emod_of_nonneg (by omega)]; rfl
      have e4 : ((3 : Int) - ((s.length % 3 : Nat) : Int)).tmod 3 = ((3 - s.length % 3) % 3 : Nat) := by rw [Int.tmod_eq_emod_of_nonneg (by omega)]; omega
      rw [if_neg (by simp; omega), e3, if_pos ⟨by decide, ok64 (by omega) (by omega), by decide⟩, e4]
      simp; omega
    | succ p =>
      rw [List.replicate_succ] at h3
      obtain ⟨g1, g2, g3⟩ := drop_cons h3
      have g1' : t.getD (i : Int).toNat 0 = 61 := g1
      rw [if_pos (by simp; omega), if_pos (by omega), g1', if_pos (by decide), if_pos (ok64 (by omega) (by omega))]
      unfold BLet_2
      rw [if_pos (ok64 (by omega) (by omega))]
      exact ih (i + 1) (e + 1) p (by omega) (by omega) g2 (by omega) (by omega)
theorem BLet_eq (fuel : Nat) (s t : List UInt8) (hs : s.length ≤ 3000) (ht : t.length ≤ 100000) : ∀ (L : List UInt8) (f i : Nat), t.length < f + i → i + L.length + (3 - s.length % 3) % 3 = t.length → t.drop i = L ++ List.replicate ((3 - s.length % 3) % 3) 61 → (∀ c ∈ L, al c = true) →
    BLet_1 fuel f s t (0 : Int) (i : Int) = some true
  | [], f, i, h1, h2, h3, _ => BLet_end fuel s t hs ht f i 0 ((3 - s.length % 3) % 3) (by simp at h2; omega) (by simpa using h2) (by simpa using h3) (by omega) (by omega)
  | c :: L, f, i, h1, h2, h3, h4 => by
    simp only [List.length_cons] at h2
    cases f with
    | zero => omega
    | succ f =>
      obtain ⟨g1, g2, g3⟩ := drop_cons h3
      have g1' : t.getD (i : Int).toNat 0 = c := g1
      have hc := h4 c (List.mem_cons_self ..)
      have hne : ¬ ((c.toNat : Int) = 61) := fun e => by
        have : c = 61 := u8_eq (d := 61) |>.1 e
        subst this; exact absurd hc (by decide)
      rw [BLet_1, if_pos (by simp; omega), if_pos (by omega), g1', if_neg (by simpa using hne), if_neg]
      · unfold BLet_2
        rw [if_pos (ok64 (by omega) (by omega))]
        exact BLet_eq fuel s t hs ht L f (i + 1) (by omega) (by omega) g2 (fun c hc => h4 c (List.mem_cons_of_mem _ hc))
      · change ¬ ((decide ((0 : Int) > 0) || !al c) = true)
        rw [hc]; decide
theorem Let_true (s : List UInt8) : FnP Try.prog 4 [.p (.str s)] (.p (.bool true)) := fn_Let 5000 s _ fun _ => by
  unfold FLet
  split
  · rfl
  · rename_i h
    simp only [decide_eq_true_eq] at h
    have hl := encB_len4 s
    obtain ⟨L, h1, h2⟩ := encB_form s
    have hl2 := congrArg List.length h1
    simp only [List.length_append, List.length_replicate] at hl2
    rw [if_pos (by omega)]
    exact BLet_eq 5000 s (encB s) (by omega) (by omega) L 5000 0 (by omega) (by omega) (by simpa using h1) h2
end Go.Proofs.Ytdjlilhdgnogaaa
