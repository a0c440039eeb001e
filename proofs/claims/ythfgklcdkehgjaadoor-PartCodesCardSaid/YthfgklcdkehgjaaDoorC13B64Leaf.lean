/-
  Lifted functions, and facts about them.
-/
import Derived.Test.YthfgklcdkehgjaaDoorRows
import Derived.Test.YthfgklcdkehgjaaDoorAmC
import Derived.Test.YthfgklcdkehgjaaDoorC13Lits
import Derived.Test.YthfgklcdkehgjaaDoorC13Small
namespace Go.Proofs.YthfgklcdkehgjaaDoor
open Go Go.Am
set_option linter.unusedVariables false






def Bletters_1 (fuel : Nat)  : Nat → Int → Int → Int → List UInt8 → Option (List UInt8)
  | 0, _, _, _, _ => none
  | f1 + 1, bits, n, vi1, vb2 => if (decide (vi1 < n)) = true then (if (i64ok ((6 : Int) * vi1)) ∧ (i64ok ((18 : Int) - ((6 : Int) * vi1))) ∧ (0 ≤ ((18 : Int) - ((6 : Int) * vi1))) ∧ (0 ≤ (ibits .and .i64 (bits.fdiv (2 ^ (min ((18 : Int) - ((6 : Int) * vi1)).toNat 64))) (63 : Int)) ∧ (ibits .and .i64 (bits.fdiv (2 ^ (min ((18 : Int) - ((6 : Int) * vi1)).toNat 64))) (63 : Int)) < (LB_7543b37f.length : Int)) ∧ ((vb2.length + [UInt8.ofNat (((LB_7543b37f.getD (ibits .and .i64 (bits.fdiv (2 ^ (min ((18 : Int) - ((6 : Int) * vi1)).toNat 64))) (63 : Int)).toNat 0).toNat : Int)).toNat].length) * 1 ≤ 140737488355328) then (if i64ok (vi1 + (1 : Int)) then (Bletters_1 fuel f1 bits n (vi1 + (1 : Int)) (vb2 ++ [UInt8.ofNat (((LB_7543b37f.getD (ibits .and .i64 (bits.fdiv (2 ^ (min ((18 : Int) - ((6 : Int) * vi1)).toNat 64))) (63 : Int)).toNat 0).toNat : Int)).toNat])) else none) else none) else (some vb2)

def Fletters (fuel : Nat) (bits n : Int) : Option (List UInt8) := Bletters_1 fuel fuel bits n (0 : Int) []

noncomputable def cletters : Code := bodyOf Tryd.f39

def envletters : Env := mkEnv []

theorem envletters_ok : EnvOk Tryd.prog envletters := EnvOk_mk trivial

theorem Tletters (fuel : Nat) (bits n : Int) (res : List UInt8) (h : Fletters fuel bits n = some res) (C : Ctx) (hC : CtxOk C 23 []) :
    T Tryd.prog C (at_ cletters []) (mkS [(0, .p (.int .i64 bits)), (1, .p (.int .i64 n))] []) (Qend Tryd.prog C Tryd.f39.results.toList (.p (.bytes res))) := by
  have henv := envletters_ok
  unfold Fletters at h
  refine T_seqp (p := []) (by kernel_rfl) ?_
  refine T_reg henv hC [] [(0, .p (.int .i64 bits)), (1, .p (.int .i64 n))] [] [] (by kernel_rfl) (by kernel_rfl) trivial (fun s1 hs1 => ?_)
  refine (T.weaken ?_ hs1 : T Tryd.prog C (at_ cletters [1]) _ _)
  refine T_seqp (p := [1]) (by kernel_rfl) ?_
  refine T_reg henv hC [(5, none)] [(0, .p (.int .i64 bits)), (1, .p (.int .i64 n)), (5, .arr 5)] [(5, .barr 5 false [])] [] (by kernel_rfl) (by kernel_rfl) trivial (fun s1 hs1 => ?_)
  refine (T.weaken ?_ hs1 : T Tryd.prog C (at_ cletters [1, 1]) _ _)
  refine T_seqp (p := [1, 1]) (by kernel_rfl) ?_
  refine T_seqp (p := [1, 1, 0]) (by kernel_rfl) ?_
  refine T_reg henv hC [(5, some 5)] [(0, .p (.int .i64 bits)), (5, .arr 5), (7, .p (.int .i64 n)), (8, .p (.int .i64 (0 : Int)))] [(5, .barr 5 false [])] [] (by kernel_rfl) (by kernel_rfl) trivial (fun s1 hs1 => ?_)
  refine (T.weaken ?_ hs1 : T Tryd.prog C (at_ cletters [1, 1, 0, 1]) _ _)
  refine T_blockp (p := [1, 1, 0, 1]) 0 (by kernel_rfl) ?_
  refine T.weaken ?_ (Sub_view (l := [(0, .p (.int .i64 bits)), (5, .arr 5), (7, .p (.int .i64 n)), (8, .p (.int .i64 (0 : Int)))]) (o := [(5, .barr 5 false [])]) hC [(5, some 5)] (by kernel_rfl) (by kernel_rfl) (by kernel_rfl))
  refine T_loopp (p := [1, 1, 0, 1, 0]) (by kernel_rfl) (fun f1 s2 => ∃ (bits : Int) (n : Int) (vi1 : Int) (vb2 : List UInt8), s2 = mkS [(0, .p (.int .i64 bits)), (5, .arr 5), (7, .p (.int .i64 n)), (8, .p (.int .i64 vi1))] [(5, .barr 5 false vb2)] ∧ Bletters_1 fuel f1 bits n vi1 vb2 = some res) ?_ fuel ⟨bits, n, (0 : Int), [], rfl, h⟩
  rintro f1 s2 ⟨bits, n, vi1, vb2, rfl, h⟩
  cases f1 with
  | zero => cases h
  | succ f1 =>
    rw [Bletters_1] at h
    refine T_seqp (p := [1, 1, 0, 1, 0, 0]) (by kernel_rfl) ?_
    refine T_reg henv hC [(5, some 5)] [(0, .p (.int .i64 bits)), (5, .arr 5), (7, .p (.int .i64 n)), (8, .p (.int .i64 vi1)), (9, .p (.bool (decide (vi1 < n))))] [(5, .barr 5 false vb2)] [] (by kernel_rfl) (by kernel_rfl) trivial (fun s1 hs1 => ?_)
    refine (T.weaken ?_ hs1 : T Tryd.prog C (at_ cletters [1, 1, 0, 1, 0, 0, 1]) _ _)
    refine T_seqp (p := [1, 1, 0, 1, 0, 0, 1]) (by kernel_rfl) ?_
    refine T_condp (p := [1, 1, 0, 1, 0, 0, 1, 0]) (by kernel_rfl) (decide (vi1 < n)) (by kernel_rfl) (fun hb => ?_) (fun hb => ?_)
    · have h := ite_t h hb
      refine T_skipp (p := [1, 1, 0, 1, 0, 0, 1, 0, 0]) (by kernel_rfl) ?_
      refine (T.weaken ?_ (Sub.refl _) : T Tryd.prog C (at_ cletters [1, 1, 0, 1, 0, 0, 1, 1]) _ _)
      refine T_seqp (p := [1, 1, 0, 1, 0, 0, 1, 1]) (by kernel_rfl) ?_
      refine T_blockp (p := [1, 1, 0, 1, 0, 0, 1, 1, 0]) 1 (by kernel_rfl) ?_
      refine T_seqp (p := [1, 1, 0, 1, 0, 0, 1, 1, 0, 0]) (by kernel_rfl) ?_
      refine T_reg henv hC [(5, some 5)] [(0, .p (.int .i64 bits)), (5, .arr 5), (6, .p (.int .i64 vi1)), (7, .p (.int .i64 n)), (8, .p (.int .i64 vi1))] [(5, .barr 5 false vb2)] [] (by kernel_rfl) (by kernel_rfl) trivial (fun s1 hs1 => ?_)
      refine (T.weaken ?_ hs1 : T Tryd.prog C (at_ cletters [1, 1, 0, 1, 0, 0, 1, 1, 0, 0, 1]) _ _)
      obtain ⟨hob, h⟩ := ite_get h
      refine T_reg henv hC [(5, some 20)] [(0, .p (.int .i64 bits)), (5, .arr 5), (7, .p (.int .i64 n)), (8, .p (.int .i64 vi1))] [(5, .barr 5 false (vb2 ++ [UInt8.ofNat (((LB_7543b37f.getD (ibits .and .i64 (bits.fdiv (2 ^ (min ((18 : Int) - ((6 : Int) * vi1)).toNat 64))) (63 : Int)).toNat 0).toNat : Int)).toNat]))] [i64ok ((6 : Int) * vi1), i64ok ((18 : Int) - ((6 : Int) * vi1)), 0 ≤ ((18 : Int) - ((6 : Int) * vi1)), 0 ≤ (ibits .and .i64 (bits.fdiv (2 ^ (min ((18 : Int) - ((6 : Int) * vi1)).toNat 64))) (63 : Int)) ∧ (ibits .and .i64 (bits.fdiv (2 ^ (min ((18 : Int) - ((6 : Int) * vi1)).toNat 64))) (63 : Int)) < (LB_7543b37f.length : Int), (vb2.length + [UInt8.ofNat (((LB_7543b37f.getD (ibits .and .i64 (bits.fdiv (2 ^ (min ((18 : Int) - ((6 : Int) * vi1)).toNat 64))) (63 : Int)).toNat 0).toNat : Int)).toNat].length) * 1 ≤ 140737488355328] (by kernel_rfl) (by kernel_rfl) ⟨hob.1, hob.2.1, hob.2.2.1, hob.2.2.2.1, hob.2.2.2.2, trivial⟩ (fun s1 hs1 => ?_)
      refine (T.weaken ?_ hs1 : T Tryd.prog C (at_ cletters [1, 1, 0, 1, 0, 0, 1, 1, 1]) _ _)
      obtain ⟨hob, h⟩ := ite_get h
      refine T_reg henv hC [(5, some 5)] [(0, .p (.int .i64 bits)), (5, .arr 5), (7, .p (.int .i64 n)), (8, .p (.int .i64 (vi1 + (1 : Int))))] [(5, .barr 5 false (vb2 ++ [UInt8.ofNat (((LB_7543b37f.getD (ibits .and .i64 (bits.fdiv (2 ^ (min ((18 : Int) - ((6 : Int) * vi1)).toNat 64))) (63 : Int)).toNat 0).toNat : Int)).toNat]))] [i64ok (vi1 + (1 : Int))] (by kernel_rfl) (by kernel_rfl) ⟨hob, trivial⟩ (fun s1 hs1 => ?_)
      exact ⟨f1, _, Nat.lt_succ_self f1, ⟨bits, n, vi1 + (1 : Int), vb2 ++ [UInt8.ofNat (((LB_7543b37f.getD (ibits .and .i64 (bits.fdiv (2 ^ (min ((18 : Int) - ((6 : Int) * vi1)).toNat 64))) (63 : Int)).toNat 0).toNat : Int)).toNat], rfl, h⟩, Sub.trans hs1 (Sub_view hC [(5, some 5)] (by kernel_rfl) (by kernel_rfl) (by kernel_rfl))⟩
    · have h := ite_f h hb
      refine T_exitp (p := [1, 1, 0, 1, 0, 0, 1, 0, 1]) 0 (by kernel_rfl) ?_
      refine then_exit ?_
      refine then_exit ?_
      refine inblock_hit ?_
      refine (T.weaken ?_ (Sub.refl _) : T Tryd.prog C (at_ cletters [1, 1, 1]) _ _)
      refine T_seqp (p := [1, 1, 1]) (by kernel_rfl) ?_
      refine T_reg henv hC [(4, some 5)] [(4, .arr 4)] [(4, .barr 5 false vb2)] [] (by kernel_rfl) (by kernel_rfl) trivial (fun s1 hs1 => ?_)
      refine (T.weaken ?_ hs1 : T Tryd.prog C (at_ cletters [1, 1, 1, 1]) _ _)
      refine T_retp (p := [1, 1, 1, 1]) (by kernel_rfl) ?_
      have h := Option.some.inj h; subst h
      exact ⟨mkS [(4, .arr 4)] [(4, .barr 5 false vb2)], (Sub.refl _), by kernel_rfl⟩

theorem fn_letters (fuel : Nat) (bits n : Int) (res : List UInt8) (h : (∃ M vs, ARels γ0 M [.p (.int .i64 bits), .p (.int .i64 n)] vs) → Fletters fuel bits n = some res) : FnP Tryd.prog 39 [.p (.int .i64 bits), .p (.int .i64 n)] (.p (.bytes res)) :=
  FnP_lift (fn := Tryd.f39) (by kernel_rfl) (by kernel_rfl) fun M vs hvs C hC0 => have hC : CtxOk C 23 [] := ⟨hC0.nt.trans (by kernel_rfl), hC0.fx⟩; T.weaken (Tletters fuel bits n res (h ⟨M, vs, hvs⟩) C hC) (sinit_sub hC (by kernel_rfl) (by kernel_rfl))
/-! Base64: what the small functions answer. -/

abbrev alphaS : List UInt8 := LB_7543b37f
def letter (k : Nat) : UInt8 := alphaS.getD k 0
def letS (bits : Int) (n : Nat) : List UInt8 := (List.range' 0 n).map fun i => letter (bits.toNat / 2 ^ (18 - 6 * i) % 64)
abbrev letok (bits n : Int) : Prop := 0 ≤ bits ∧ bits < 16777216 ∧ 0 ≤ n ∧ n ≤ 4
theorem alpha_len : LB_7543b37f.length = 64 := by decide
theorem shr_and (x m : Nat) (hx : x < 9223372036854775808) : ibits .and .i64 ((x : Int).fdiv (2 ^ m)) (63 : Int) = ((x / 2 ^ m % 64 : Nat) : Int) := by
  have e : (x : Int).fdiv (2 ^ m) = ((x / 2 ^ m : Nat) : Int) := by
    rw [Int.fdiv_eq_ediv_of_nonneg _ (Int.pow_nonneg (by decide))]
    rw [Int.natCast_ediv, Int.natCast_pow]; rfl
  have hle : x / 2 ^ m ≤ x := Nat.div_le_self _ _
  rw [e]
  have := i64_and (a := x / 2 ^ m) (b := 63) (by omega) (by decide)
  rw [show ((63 : Int)) = ((63 : Nat) : Int) from rfl, this, show (63 : Nat) = 2 ^ 6 - 1 from rfl, and_mod]

theorem letter_fold (k : Nat) : LB_7543b37f.getD k 0 = letter k := rfl
theorem Bletters_eq (fuel x n : Nat) (hx : x < 16777216) (hn : n ≤ 4) : ∀ (k f i : Nat) (b : List UInt8), k < f → i + k = n → b.length ≤ i →
    Bletters_1 fuel f (x : Int) (n : Int) (i : Int) b = some (b ++ (List.range' i k).map fun i => letter (x / 2 ^ (18 - 6 * i) % 64)) := by
  intro k
  induction k with
  | zero =>
    intro f i b hf hi hb
    cases f with
    | zero => omega
    | succ f => rw [Bletters_1, if_neg (by simp; omega)]; simp
  | succ k ih =>
    intro f i b hf hi hb
    cases f with
    | zero => omega
    | succ f =>
      have hm : (min ((18 : Int) - (6 : Int) * (i : Int)).toNat 64) = 18 - 6 * i := by omega
      have hlt : x / 2 ^ (18 - 6 * i) % 64 < 64 := Nat.mod_lt _ (by decide)
      rw [Bletters_1, if_pos (by simp; omega)]
      rw [hm, shr_and x _ (by omega)]
      simp only [Int.toNat_natCast, UInt8.ofNat_toNat, letter_fold, alpha_len]
      have := ih f (i + 1) (b ++ [letter (x / 2 ^ (18 - 6 * i) % 64)]) (by omega) (by omega) (by simp; omega)
      rw [if_pos ⟨ok64 (by omega) (by omega), ok64 (by omega) (by omega), by omega, ⟨Int.natCast_nonneg _, Int.ofNat_lt.2 hlt⟩, by simp only [List.length_cons, List.length_nil]; omega⟩, if_pos (ok64 (by omega) (by omega))]
      refine Eq.trans ?_ (this.trans ?_)
      · congr 1
      · rw [List.range'_succ]; simp
theorem Fletters_eq (bits n : Int) (h : letok bits n) : Fletters 5 bits n = some (letS bits n.toNat) := by
  obtain ⟨h1, h2, h3, h4⟩ := h
  obtain ⟨x, rfl⟩ := Int.eq_ofNat_of_zero_le h1
  obtain ⟨m, rfl⟩ := Int.eq_ofNat_of_zero_le h3
  unfold Fletters letS
  exact Bletters_eq 5 x m (by omega) (by omega) m 5 0 [] (by omega) (by omega) (by simp)

def sp_letters : List AV → Option (AV × Option Prop)
  | [.p (.int .i64 bits), .p (.int .i64 n)] => some (.p (.bytes (letS bits n.toNat)), some (letok bits n))
  | _ => none
theorem ok_letters : SpecOk Tryd.prog 39 sp_letters := by
  intro zs r ok h hok
  unfold sp_letters at h
  split at h
  · cases h; exact ⟨by kernel_rfl, fn_letters 5 _ _ _ fun _ => Fletters_eq _ _ hok⟩
  · cases h


end Go.Proofs.YthfgklcdkehgjaaDoor
