/-
  Lifted functions, and facts about them.
-/
import Derived.Test.YtmnkkliibjlefaaDoorRows
import Derived.Test.YtmnkkliibjlefaaDoorAmC
import Derived.Test.YtmnkkliibjlefaaDoorAmNeed
import Derived.Test.YtmnkkliibjlefaaDoorC5CutC
namespace Go.Proofs.YtmnkkliibjlefaaDoor
open Go Go.Am
set_option linter.unusedVariables false
/-! TrimRight at one byte. -/
def trimS (s : List UInt8) (c : Int) : List UInt8 := (s.reverse.dropWhile fun x => decide ((x.toNat : Int) = c)).reverse
noncomputable def ctrb : Code := bodyOf Tryd.f45

noncomputable def Gtrb : Cfg := ⟨Tryd.prog, mkEnv [], mkEnvR [], 23, [], [([0, 0, 1], ⟨[0, 1], []⟩), ([1, 0, 0, 0, 0, 1], ⟨[0, 1, 16], []⟩)], []⟩

noncomputable def Btrb_1 (F f1 : Nat) (vs1 : List UInt8) (c : Int) : Option Ans := runR Gtrb ctrb (kP Tryd.prog Tryd.f45.results.toList) F [] [1, 0, 0] f1 [(0, .p (.str vs1)), (1, .p (.int .u8 c))] []

noncomputable def Btrb_2 (F f1 : Nat) (vs1 : List UInt8) (c : Int) (vc2 : Bool) : Option Ans := runB Gtrb ctrb (kP Tryd.prog Tryd.f45.results.toList) F [f1] [1, 0, 0, 0, 0, 1] [(0, .p (.str vs1)), (1, .p (.int .u8 c)), (16, .p (.bool vc2))] []

noncomputable def Ftrb (F : Nat) (s : List UInt8) (c : Int) : Option Ans := runF Gtrb Tryd.f45 F [.p (.str s), .p (.int .u8 c)]

theorem Btrb_1_eq (F f1 : Nat) (vs1 : List UInt8) (c : Int) : Btrb_1 F (f1 + 1) vs1 c = need ((decide ((vs1.length : Int) > (0 : Int))) = true → i64ok ((vs1.length : Int) - (1 : Int))) (need ((decide ((vs1.length : Int) > (0 : Int))) = true → 0 ≤ ((vs1.length : Int) - (1 : Int)) ∧ ((vs1.length : Int) - (1 : Int)) < (vs1.length : Int)) (Btrb_2 F f1 vs1 c ((decide ((vs1.length : Int) > (0 : Int))) && (((vs1.getD ((vs1.length : Int) - (1 : Int)).toNat 0).toNat : Int) == c)))) :=
  Eq.trans (show Btrb_1 F (f1 + 1) vs1 c = need ((decide ((vs1.length : Int) > (0 : Int))) = true → (decide ((vs1.length : Int) > (0 : Int))) = true) (need ((decide ((vs1.length : Int) > (0 : Int))) = true → (decide ((vs1.length : Int) > (0 : Int))) = true) (need ((decide ((vs1.length : Int) > (0 : Int))) = true → i64ok ((vs1.length : Int) - (1 : Int))) (need ((decide ((vs1.length : Int) > (0 : Int))) = true → (decide ((vs1.length : Int) > (0 : Int))) = true) (need ((decide ((vs1.length : Int) > (0 : Int))) = true → (decide ((vs1.length : Int) > (0 : Int))) = true) (need ((decide ((vs1.length : Int) > (0 : Int))) = true → 0 ≤ ((vs1.length : Int) - (1 : Int)) ∧ ((vs1.length : Int) - (1 : Int)) < (vs1.length : Int)) (need ((decide ((vs1.length : Int) > (0 : Int))) = true → (decide ((vs1.length : Int) > (0 : Int))) = true) (need ((decide ((vs1.length : Int) > (0 : Int))) = true → (decide ((vs1.length : Int) > (0 : Int))) = true) (need ((decide ((vs1.length : Int) > (0 : Int))) = true → (decide ((vs1.length : Int) > (0 : Int))) = true) (Btrb_2 F f1 vs1 c ((decide ((vs1.length : Int) > (0 : Int))) && (((vs1.getD ((vs1.length : Int) - (1 : Int)).toNat 0).toNat : Int) == c))))))))))) by kernel_rfl) (need_strike (show (decide ((vs1.length : Int) > (0 : Int))) = true → (decide ((vs1.length : Int) > (0 : Int))) = true from (fun q0 => q0)) (need_strike (show (decide ((vs1.length : Int) > (0 : Int))) = true → (decide ((vs1.length : Int) > (0 : Int))) = true from (fun q0 => q0)) (need_congr (need_strike (show (decide ((vs1.length : Int) > (0 : Int))) = true → (decide ((vs1.length : Int) > (0 : Int))) = true from (fun q0 => q0)) (need_strike (show (decide ((vs1.length : Int) > (0 : Int))) = true → (decide ((vs1.length : Int) > (0 : Int))) = true from (fun q0 => q0)) (need_congr (need_strike (show (decide ((vs1.length : Int) > (0 : Int))) = true → (decide ((vs1.length : Int) > (0 : Int))) = true from (fun q0 => q0)) (need_strike (show (decide ((vs1.length : Int) > (0 : Int))) = true → (decide ((vs1.length : Int) > (0 : Int))) = true from (fun q0 => q0)) (need_strike (show (decide ((vs1.length : Int) > (0 : Int))) = true → (decide ((vs1.length : Int) > (0 : Int))) = true from (fun q0 => q0)) (rfl))))))))))

theorem Btrb_2_eq (F f1 : Nat) (vs1 : List UInt8) (c : Int) (vc2 : Bool) : Btrb_2 F f1 vs1 c vc2 = cond (vc2) (need (i64ok ((vs1.length : Int) - (1 : Int))) (need (0 ≤ ((vs1.length : Int) - (1 : Int)) ∧ ((vs1.length : Int) - (1 : Int)) ≤ (vs1.length : Int)) (Btrb_1 F f1 (vs1.take ((vs1.length : Int) - (1 : Int)).toNat) c))) (some (.p (.str vs1), [])) := by kernel_rfl

theorem Ftrb_eq (F : Nat) (s : List UInt8) (c : Int) : Ftrb F s c = Btrb_1 F F s c := by kernel_rfl

theorem fn_trb (F : Nat) (s : List UInt8) (c : Int) (r : AV) (h : (∃ M vs, ARels γ0 M [.p (.str s), .p (.int .u8 c)] vs) → Ftrb F s c = some (r, [])) : FnP Tryd.prog 45 [.p (.str s), .p (.int .u8 c)] r :=
  FnP_run Gtrb F rfl (EnvOk_mk (l := []) trivial) (EnvROk_mk (l := []) trivial) (Checked.mixed Tryd.checked) (fn := Tryd.f45) (by kernel_rfl) (by kernel_rfl) rfl h
theorem Btrb_spec (F : Nat) (c : Int) : ∀ (r : List UInt8) (f : Nat), r.length < f → r.length ≤ 1000000 → Btrb_1 F f r.reverse c = some (.p (.str (r.dropWhile fun x => decide ((x.toNat : Int) = c)).reverse), []) := by
  intro r
  induction r with
  | nil =>
    intro f hf hl
    cases f with
    | zero => simp at hf
    | succ f =>
      rw [Btrb_1_eq]
      refine need_mk (fun h => by simp at h) (need_mk (fun h => by simp at h) ?_)
      rw [Btrb_2_eq]
      exact cond_f rfl rfl
  | cons x r ih =>
    intro f hf hl
    cases f with
    | zero => simp at hf
    | succ f =>
      have hlen : (x :: r).reverse.length = r.length + 1 := by simp
      have e1 : ((((x :: r).reverse.length : Nat) : Int) - 1).toNat = r.length := by rw [hlen]; omega
      have hg : (x :: r).reverse.getD r.length 0 = x := by
        rw [List.getD_eq_getElem?_getD, List.reverse_cons, List.getElem?_append_right (by simp)]; simp
      have ht : (x :: r).reverse.take r.length = r.reverse := by rw [List.reverse_cons, List.take_left' (by simp)]
      simp only [List.length_cons] at hf hl
      rw [Btrb_1_eq]
      refine need_mk (fun _ => by unfold i64ok; rw [hlen]; omega) (need_mk (fun _ => by rw [hlen]; omega) ?_)
      rw [e1, hg, Btrb_2_eq, List.dropWhile_cons]
      by_cases hc : (x.toNat : Int) = c
      · refine cond_t (by rw [hlen]; simp [hc]) (need_mk (by unfold i64ok; rw [hlen]; omega) (need_mk (by rw [hlen]; omega) ?_))
        rw [e1, ht, ih f (by omega) (by omega), if_pos (by simpa using hc)]
      · refine cond_f (by simp [hc]) ?_
        rw [if_neg (by simpa using hc)]
theorem trb_eq (s : List UInt8) (c : Int) (hs : s.length ≤ 1000000) : Ftrb (s.length + 1) s c = some (.p (.str (trimS s c)), []) := by
  rw [Ftrb_eq]
  have := Btrb_spec (s.length + 1) c s.reverse (s.length + 1) (by simp) (by simpa using hs)
  rw [List.reverse_reverse] at this
  exact this
def sp_trb : List AV → Option (AV × Option Prop)
  | [.p (.str s), .p (.int .u8 c)] => some (.p (.str (trimS s c)), some (s.length ≤ 1000000))
  | _ => none
theorem ok_trb : SpecOk Tryd.prog 45 sp_trb := by
  intro zs r ok he hok
  unfold sp_trb at he
  split at he
  · cases he; exact ⟨by kernel_rfl, fn_trb (_) _ _ _ fun hx => trb_eq _ _ hok⟩
  · cases he
noncomputable def ctrim : Code := bodyOf Tryd.f34

noncomputable def Gtrim : Cfg := ⟨Tryd.prog, mkEnv [(45, sp_trb)], mkEnvR [], 37, [], [], []⟩

noncomputable def Ftrim (F : Nat) (s : List UInt8) : Option Ans := runF Gtrim Tryd.f34 F [.p (.str s), .p (.str ([61] : List UInt8))]

theorem Ftrim_eq (F : Nat) (s : List UInt8) : Ftrim F s = ((cond ((s == ([] : List UInt8)) || (([61] : List UInt8) == ([] : List UInt8))) (some (.p (.str s), [])) ((need (true = true → 0 ≤ (0 : Int) ∧ (0 : Int) < (([61] : List UInt8).length : Int)) (((need (0 ≤ (0 : Int) ∧ (0 : Int) < (([61] : List UInt8).length : Int)) (need (s.length ≤ 1000000) (some (.p (.str (trimS s (61 : Int))), [])))))))))) := by
  have h : Ftrim F s = need ((!(s == ([] : List UInt8))) = true → (!(s == ([] : List UInt8))) = true) (need ((s == ([] : List UInt8)) = false → (!(s == ([] : List UInt8))) = true) (cond ((s == ([] : List UInt8)) || (([61] : List UInt8) == ([] : List UInt8))) (some (.p (.str s), [])) (need (true = true → true = true) (need (true = true → 0 ≤ (0 : Int) ∧ (0 : Int) < (([61] : List UInt8).length : Int)) (need (true = true → true = true) (need (true = true → true = true) (need (0 ≤ (0 : Int) ∧ (0 : Int) < (([61] : List UInt8).length : Int)) (need (s.length ≤ 1000000) (some (.p (.str (trimS s (61 : Int))), [])))))))))) := by kernel_rfl
  rw [h, need_pos (show true = true → true = true from (fun q0 => q0)), need_pos (show true = true → true = true from (fun q0 => q0)), need_pos (show true = true → true = true from (fun q0 => q0)), need_pos (show (s == ([] : List UInt8)) = false → (!(s == ([] : List UInt8))) = true from (fun q0 => (not_mk q0))), need_pos (show (!(s == ([] : List UInt8))) = true → (!(s == ([] : List UInt8))) = true from (fun q0 => q0))]

theorem fn_trim (F : Nat) (s : List UInt8) (r : AV) (h : (∃ M vs, ARels γ0 M [.p (.str s), .p (.str ([61] : List UInt8))] vs) → Ftrim F s = some (r, [])) : FnP Tryd.prog 34 [.p (.str s), .p (.str ([61] : List UInt8))] r :=
  FnP_run Gtrim F rfl (EnvOk_mk (l := [(45, sp_trb)]) ⟨ok_trb.any, trivial⟩) (EnvROk_mk (l := []) trivial) (Checked.mixed Tryd.checked) (fn := Tryd.f34) (by kernel_rfl) (by kernel_rfl) rfl h
theorem trim_eq (s : List UInt8) (hs : s.length ≤ 1000000) : Ftrim 0 s = some (.p (.str (trimS s 61)), []) := by
  rw [Ftrim_eq]
  by_cases h : s = []
  · subst h
    exact cond_t rfl rfl
  · exact cond_f (by simpa using h) (need_mk (fun _ => by simp) (need_mk (by simp) (need_mk hs rfl)))
def sp_trim : List AV → Option (AV × Option Prop)
  | [.p (.str s), .p (.str ([61] : List UInt8))] => some (.p (.str (trimS s 61)), some (s.length ≤ 1000000))
  | _ => none
theorem ok_trim : SpecOk Tryd.prog 34 sp_trim := by
  intro zs r ok he hok
  unfold sp_trim at he
  split at he
  · cases he; exact ⟨by kernel_rfl, fn_trim 0 _ _ fun hx => trim_eq _ hok⟩
  · cases he
end Go.Proofs.YtmnkkliibjlefaaDoor
