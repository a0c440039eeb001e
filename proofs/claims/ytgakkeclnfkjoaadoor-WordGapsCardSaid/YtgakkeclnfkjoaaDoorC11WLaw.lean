/-
  Lifted functions, and facts about them.
-/
import Derived.Test.YtgakkeclnfkjoaaDoorRows
import Derived.Test.YtgakkeclnfkjoaaDoorAmC
import Derived.Test.YtgakkeclnfkjoaaDoorAmNeed
import Derived.Test.YtgakkeclnfkjoaaDoorC11WPlain
namespace Go.Proofs.YtgakkeclnfkjoaaDoor
open Go Go.Am
set_option linter.unusedVariables false
theorem letter_inW : ∀ k, k < 64 → inW (letter k) = true := by decide +kernel
theorem lets_inW (x n : Nat) : ∀ c ∈ lets x n, inW c = true := by
  intro c hc
  unfold lets at hc
  obtain ⟨i, _, rfl⟩ := List.mem_map.1 hc
  exact letter_inW _ (Nat.mod_lt _ (by decide))
theorem encB_inW : ∀ (n : Nat) (s : List UInt8), s.length ≤ n → ∀ c ∈ encB s, inW c = true := by
  intro n
  induction n with
  | zero => intro s h c hc; have : s = [] := List.eq_nil_of_length_eq_zero (by omega); subst this; simp [encB] at hc
  | succ n ih =>
    intro s h c hc
    match s, h with
    | [], _ => simp [encB] at hc
    | [a], _ =>
      rw [encB, List.mem_append] at hc
      rcases hc with hc | hc
      · exact lets_inW _ _ c hc
      · simp at hc; subst hc; decide
    | [a, b], _ =>
      rw [encB, List.mem_append] at hc
      rcases hc with hc | hc
      · exact lets_inW _ _ c hc
      · simp at hc; subst hc; decide
    | a :: b :: d :: r, h =>
      rw [encB, List.mem_append] at hc
      rcases hc with hc | hc
      · exact lets_inW _ _ c hc
      · exact ih r (by simp at h; omega) c hc
def hexU (n : Nat) : UInt8 := ([48, 49, 50, 51, 52, 53, 54, 55, 56, 57, 65, 66, 67, 68, 69, 70] : List UInt8).getD n 0
def hexL (n : Nat) : UInt8 := ([48, 49, 50, 51, 52, 53, 54, 55, 56, 57, 97, 98, 99, 100, 101, 102] : List UInt8).getD n 0
def quoteS (s : List UInt8) : List UInt8 := s.flatMap fun c => [61, hexU (c.toNat / 16), hexL (c.toNat % 16)]
theorem hex_facts (c : UInt8) : isHex (hexU (c.toNat / 16)) ∧ isHex (hexL (c.toNat % 16)) ∧ hexB (hexU (c.toNat / 16)) (hexL (c.toNat % 16)) = c ∧ inW (hexU (c.toNat / 16)) = true ∧ inW (hexL (c.toNat % 16)) = true ∧ hexU (c.toNat / 16) ≠ 95 ∧ hexL (c.toNat % 16) ≠ 95 := by
  have h := c.toNat_lt
  have key : ∀ n : Fin 256, isHex (hexU (n.val / 16)) ∧ isHex (hexL (n.val % 16)) ∧ hexB (hexU (n.val / 16)) (hexL (n.val % 16)) = UInt8.ofNat n.val ∧ inW (hexU (n.val / 16)) = true ∧ inW (hexL (n.val % 16)) = true ∧ hexU (n.val / 16) ≠ 95 ∧ hexL (n.val % 16) ≠ 95 := by decide +kernel
  have := key ⟨c.toNat, h⟩
  rw [UInt8.ofNat_toNat] at this
  exact this
theorem quote_mem {s : List UInt8} {c : UInt8} (h : c ∈ quoteS s) : inW c = true ∧ c ≠ 95 := by
  unfold quoteS at h
  obtain ⟨d, _, hd⟩ := List.mem_flatMap.1 h
  have := hex_facts d
  simp only [List.mem_cons, List.not_mem_nil, or_false] at hd
  rcases hd with rfl | rfl | rfl
  · exact ⟨by decide, by decide⟩
  · exact ⟨this.2.2.2.1, this.2.2.2.2.2.1⟩
  · exact ⟨this.2.2.2.2.1, this.2.2.2.2.2.2⟩
theorem rep_id {s : List UInt8} {c d : UInt8} (h : ∀ x ∈ s, x ≠ c) : repS s c d = s := by
  refine rep_none ?_
  rw [List.count_eq_zero]
  exact fun hm => h c hm rfl
theorem qdec_quote : ∀ s : List UInt8, qdec (quoteS s) = s
  | [] => by rw [show quoteS [] = [] from rfl, qdec_nil]
  | c :: r => by
    have h := hex_facts c
    rw [show quoteS (c :: r) = 61 :: hexU (c.toNat / 16) :: hexL (c.toNat % 16) :: quoteS r from rfl, qdec_3, if_pos ⟨h.1, h.2.1⟩, h.2.2.1, qdec_quote r]
theorem quote_len (s : List UInt8) : (quoteS s).length = 3 * s.length := by
  induction s with
  | nil => rfl
  | cons c r ih => rw [show quoteS (c :: r) = 61 :: hexU (c.toNat / 16) :: hexL (c.toNat % 16) :: quoteS r from rfl]; simp; omega
theorem body_b (k : UInt8) (hk : k = 66 ∨ k = 98) (s : List UInt8) : bodyS k (encB s) = some s := by
  rw [bodyS, if_pos hk, looseB, loose_enc _ s (Nat.le_refl _)]
theorem body_q (s : List UInt8) : bodyS 81 (quoteS s) = some s := by
  rw [bodyS, if_neg (by decide), if_pos (by decide), rep_id (fun x hx => (quote_mem hx).2), qdec_quote]
theorem says_utf {cs : List UInt8} (h : foldS cs = cUtf8) {u : List UInt8} (hu : validS u = true) : saysS cs u = (u, true) := by rw [saysS, if_pos (.inl h), hu]
theorem says_iso {cs : List UInt8} (h : foldS cs = cIso) (u : List UInt8) : saysS cs u = (bytesS u, true) := by
  rw [saysS, h, if_neg (by decide), if_pos rfl]
theorem ok_b {cs : List UInt8} (hc : cs ≠ []) (h1 : ∀ c ∈ cs, inW c = true) {k : UInt8} (hk : k = 66 ∨ k = 98) {s t : List UInt8} (hs : saysS cs s = (t, true)) (r : List UInt8) :
    okAt (mkW cs k (encB s) ++ r) 0 = some (t, (mkW cs k (encB s)).length) := by
  rw [ok_mk hc h1 (encB_inW _ s (Nat.le_refl _)) (body_b k hk s), hs]; rfl
theorem ok_q {cs : List UInt8} (hc : cs ≠ []) (h1 : ∀ c ∈ cs, inW c = true) {s t : List UInt8} (hs : saysS cs s = (t, true)) (r : List UInt8) :
    okAt (mkW cs 81 (quoteS s) ++ r) 0 = some (t, (mkW cs 81 (quoteS s)).length) := by
  rw [ok_mk hc h1 (fun c hc => (quote_mem hc).1) (body_q s), hs]; rfl
theorem word_of {x t : List UInt8} (h : ∀ r, okAt (x ++ r) 0 = some (t, x.length)) : wordS x = t := by
  have := word_ok (h [])
  rw [List.append_nil, contW_nil, List.append_nil] at this; exact this
theorem awake_word : wordS [61, 63, 117, 116, 102, 45, 56, 63, 81, 63, 97, 95, 98, 63, 61] = [97, 32, 98] := by
  refine word_of (x := mkW cUtf8 81 [97, 95, 98]) fun r => ?_
  have hq : qdec [97, 32, 98] = [97, 32, 98] := by rw [qdec_ne (by decide), qdec_ne (by decide), qdec_ne (by decide), qdec_nil]
  rw [ok_mk (by decide) (by decide) (by decide) (u := [97, 32, 98]) (by rw [bodyS, if_neg (by decide), if_pos (by decide), show repS [97, 95, 98] 95 32 = [97, 32, 98] from rfl, hq]), says_utf (by decide) (by decide +kernel)]
  rfl
noncomputable def cawake : Code := bodyOf Tryd.f10

noncomputable def Gawake : Cfg := ⟨Tryd.prog, mkEnv [(8, sp_wdec)], mkEnvR [], 3, [], [], []⟩

noncomputable def Fawake (F : Nat)  : Option Ans := runF Gawake Tryd.f10 F []

theorem Fawake_eq (F : Nat)  : Fawake F  = need (([61, 63, 117, 116, 102, 45, 56, 63, 81, 63, 97, 95, 98, 63, 61] : List UInt8).length ≤ 100000) (some (.p (.bool ((wordS ([61, 63, 117, 116, 102, 45, 56, 63, 81, 63, 97, 95, 98, 63, 61] : List UInt8)) == ([97, 32, 98] : List UInt8))), [])) := by kernel_rfl

theorem fn_awake (F : Nat)  (r : AV) (h : (∃ M vs, ARels γ0 M [] vs) → Fawake F  = some (r, [])) : FnP Tryd.prog 10 [] r :=
  FnP_run Gawake F rfl (EnvOk_mk (l := [(8, sp_wdec)]) ⟨ok_wdec.any, trivial⟩) (EnvROk_mk (l := []) trivial) (Checked.mixed Tryd.checked) (fn := Tryd.f10) (by kernel_rfl) (by kernel_rfl) rfl h
theorem awake_eq : Fawake 0 = some (.p (.bool true), []) := by
  rw [Fawake_eq, awake_word]
  exact need_mk (by decide) rfl
def sp_awake : List AV → Option (AV × Option Prop)
  | [] => some (.p (.bool true), none)
  | _ => none
theorem ok_awake : SpecOk Tryd.prog 10 sp_awake := by
  intro zs r ok he hok
  unfold sp_awake at he
  split at he
  · cases he; exact ⟨by kernel_rfl, fn_awake 0  _ fun hx => awake_eq ⟩
  · cases he
noncomputable def cWordAll : Code := bodyOf Tryd.f3

noncomputable def GWordAll : Cfg := ⟨Tryd.prog, mkEnv [(8, sp_wdec), (9, sp_words), (10, sp_awake)], mkEnvR [], 16, [], [], []⟩

noncomputable def FWordAll (F : Nat) (s : List UInt8) : Option Ans := runF GWordAll Tryd.f3 F [.p (.str s)]

theorem FWordAll_eq (F : Nat) (s : List UInt8) : FWordAll F s = need ((!(decide ((s.length : Int) > (2000 : Int)))) = true → s.length ≤ 100000) (need ((!(decide ((s.length : Int) > (2000 : Int)))) = true → s.length ≤ 100000) (some (.p (.bool ((decide ((s.length : Int) > (2000 : Int))) || (((wordS s) == (wordS s)) && true))), []))) :=
  Eq.trans (show FWordAll F s = need ((!(decide ((s.length : Int) > (2000 : Int)))) = true → (!(decide ((s.length : Int) > (2000 : Int)))) = true) (need ((!(decide ((s.length : Int) > (2000 : Int)))) = true → s.length ≤ 100000) (need ((!(decide ((s.length : Int) > (2000 : Int)))) = true → (!(decide ((s.length : Int) > (2000 : Int)))) = true) (need ((!(decide ((s.length : Int) > (2000 : Int)))) = true → s.length ≤ 100000) (need ((!(decide ((s.length : Int) > (2000 : Int)))) = true → (!(decide ((s.length : Int) > (2000 : Int)))) = true) (need ((!(decide ((s.length : Int) > (2000 : Int)))) = true → (!(decide ((s.length : Int) > (2000 : Int)))) = true) (need ((!(decide ((s.length : Int) > (2000 : Int)))) = true → (!(decide ((s.length : Int) > (2000 : Int)))) = true) (need ((!(decide ((s.length : Int) > (2000 : Int)))) = true → (!(decide ((s.length : Int) > (2000 : Int)))) = true) (need ((!(decide ((s.length : Int) > (2000 : Int)))) = true → ((wordS s) == (wordS s)) = true → ((!(decide ((s.length : Int) > (2000 : Int)))) && ((wordS s) == (wordS s))) = true) (need ((decide ((s.length : Int) > (2000 : Int))) = false → (!(decide ((s.length : Int) > (2000 : Int)))) = true) (some (.p (.bool ((decide ((s.length : Int) > (2000 : Int))) || (((wordS s) == (wordS s)) && true))), []))))))))))) by kernel_rfl) (need_strike (show (!(decide ((s.length : Int) > (2000 : Int)))) = true → (!(decide ((s.length : Int) > (2000 : Int)))) = true from (fun q0 => q0)) (need_congr (need_strike (show (!(decide ((s.length : Int) > (2000 : Int)))) = true → (!(decide ((s.length : Int) > (2000 : Int)))) = true from (fun q0 => q0)) (need_congr (need_strike (show (!(decide ((s.length : Int) > (2000 : Int)))) = true → (!(decide ((s.length : Int) > (2000 : Int)))) = true from (fun q0 => q0)) (need_strike (show (!(decide ((s.length : Int) > (2000 : Int)))) = true → (!(decide ((s.length : Int) > (2000 : Int)))) = true from (fun q0 => q0)) (need_strike (show (!(decide ((s.length : Int) > (2000 : Int)))) = true → (!(decide ((s.length : Int) > (2000 : Int)))) = true from (fun q0 => q0)) (need_strike (show (!(decide ((s.length : Int) > (2000 : Int)))) = true → (!(decide ((s.length : Int) > (2000 : Int)))) = true from (fun q0 => q0)) (need_strike (show (!(decide ((s.length : Int) > (2000 : Int)))) = true → ((wordS s) == (wordS s)) = true → ((!(decide ((s.length : Int) > (2000 : Int)))) && ((wordS s) == (wordS s))) = true from (fun q0 q1 => (and_mk q0 q1))) (need_strike (show (decide ((s.length : Int) > (2000 : Int))) = false → (!(decide ((s.length : Int) > (2000 : Int)))) = true from (fun q0 => (not_mk q0))) (rfl)))))))))))

theorem fn_WordAll (F : Nat) (s : List UInt8) (r : AV) (h : (∃ M vs, ARels γ0 M [.p (.str s)] vs) → FWordAll F s = some (r, [])) : FnP Tryd.prog 3 [.p (.str s)] r :=
  FnP_run GWordAll F rfl (EnvOk_mk (l := [(8, sp_wdec), (9, sp_words), (10, sp_awake)]) ⟨ok_wdec.any, ok_words.any, ok_awake.any, trivial⟩) (EnvROk_mk (l := []) trivial) (Checked.mixed Tryd.checked) (fn := Tryd.f3) (by kernel_rfl) (by kernel_rfl) rfl h
theorem WordAll_true (s : List UInt8) : FnP Tryd.prog 3 [.p (.str s)] (.p (.bool true)) := by
  refine fn_WordAll 0 s _ fun _ => ?_
  rw [FWordAll_eq]
  refine need_mk (fun h => by simp at h; omega) (need_mk (fun h => by simp at h; omega) ?_)
  simp
end Go.Proofs.YtgakkeclnfkjoaaDoor
