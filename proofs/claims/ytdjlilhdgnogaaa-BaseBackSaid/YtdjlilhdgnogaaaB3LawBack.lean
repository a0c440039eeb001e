/-
  Lifted functions, and facts about them.
-/
import Derived.Test.YtdjlilhdgnogaaaRows
import Derived.Test.YtdjlilhdgnogaaaAmB
import Derived.Test.YtdjlilhdgnogaaaB3Lits
import Derived.Test.YtdjlilhdgnogaaaB3Spec5
set_option linter.unusedVariables false
namespace Go.Proofs.Ytdjlilhdgnogaaa
open Go Go.Am
def BBack_2 (fuel : Nat) (k1 : List UInt8 → Int → List UInt8 → List UInt8 → Int → Int → List UInt8 → Option Bool) (s : List UInt8) (every : Int) (vs1 : List UInt8) (vs2 : List UInt8) (vi3 : Int) (vi4 : Int) (vb6 : List UInt8) : Option Bool := if (0 ≤ vi4 ∧ vi4 < (vs1.length : Int)) ∧ ((vb6.length + [UInt8.ofNat (((vs1.getD (vi4).toNat 0).toNat : Int)).toNat].length) * 1 ≤ 140737488355328) then (if i64ok (vi4 + (1 : Int)) then (k1 s every vs1 vs2 vi3 (vi4 + (1 : Int)) (vb6 ++ [UInt8.ofNat (((vs1.getD (vi4).toNat 0).toNat : Int)).toNat])) else none) else none

def BBack_1 (fuel : Nat)  : Nat → List UInt8 → Int → List UInt8 → List UInt8 → Int → Int → List UInt8 → Option Bool
  | 0, _, _, _, _, _, _, _ => none
  | f1 + 1, s, every, vs1, vs2, vi3, vi4, vb5 => if (decide (vi4 < (vs1.length : Int))) = true then (if ((9 : Int) ≠ 0) ∧ (i64ok ((1 : Int) + (every.tmod (9 : Int)))) ∧ (((1 : Int) + (every.tmod (9 : Int))) ≠ 0) then (if ((vi4.tmod ((1 : Int) + (every.tmod (9 : Int)))) == (0 : Int)) = true then (if (vb5.length + ([13, 10, 32, 33, 45, 95, 46] : List UInt8).length) * 1 ≤ 140737488355328 then (BBack_2 fuel (BBack_1 fuel f1) s every vs1 vs2 vi3 vi4 (vb5 ++ ([13, 10, 32, 33, 45, 95, 46] : List UInt8))) else none) else (BBack_2 fuel (BBack_1 fuel f1) s every vs1 vs2 vi3 vi4 vb5)) else none) else (if (((vs2 == s) && (vi3 == (0 : Int))) = true → vs1.length ≤ 1000000) ∧ ((((vs2 == s) && (vi3 == (0 : Int))) && ((looseB vs1) == s)) = true → vb5.length ≤ 1000000) ∧ (((((vs2 == s) && (vi3 == (0 : Int))) && ((looseB vs1) == s)) && ((looseB vb5) == s)) = true → i64ok ((s.length : Int) + (2 : Int))) ∧ (((((vs2 == s) && (vi3 == (0 : Int))) && ((looseB vs1) == s)) && ((looseB vb5) == s)) = true → (3 : Int) ≠ 0 ∧ i64ok (((s.length : Int) + (2 : Int)).tdiv (3 : Int))) ∧ (((((vs2 == s) && (vi3 == (0 : Int))) && ((looseB vs1) == s)) && ((looseB vb5) == s)) = true → i64ok ((((s.length : Int) + (2 : Int)).tdiv (3 : Int)) * (4 : Int))) then (some ((((((vs2 == s) && (vi3 == (0 : Int))) && ((looseB vs1) == s)) && ((looseB vb5) == s)) && ((vs1.length : Int) == ((((s.length : Int) + (2 : Int)).tdiv (3 : Int)) * (4 : Int)))) && true)) else none)

def FBack (fuel : Nat) (s : List UInt8) (every : Int) : Option Bool := if (decide ((s.length : Int) > (3000 : Int))) = true then (some true) else (if s.length ≤ 1000000 then (if (encB s).length ≤ 100000 then (BBack_1 fuel fuel s every (encB s) ((decB (encB s)).1) ((decB (encB s)).2) (0 : Int) []) else none) else none)

noncomputable def cBack : Code := bodyOf Try.f6

def envBack : Env := mkEnv [(8, sp_awake), (9, sp_Encode), (10, sp_Decode), (13, sp_Num), (14, sp_Loose)]

theorem envBack_ok : EnvOk Try.prog envBack := EnvOk_mk ⟨ok_awake.any, ok_Encode.any, ok_Decode.any, ok_Num.any, ok_Loose.any, trivial⟩

theorem TBack (fuel : Nat) (s : List UInt8) (every : Int) (res : Bool) (h : FBack fuel s every = some res) (C : Ctx) (hC : CtxOk C 76 []) :
    T Try.prog C (at_ cBack []) (mkS [(0, .p (.str s)), (1, .p (.int .u8 every))] []) (Qend Try.prog C Try.f6.results.toList (.p (.bool res))) := by
  have henv := envBack_ok
  unfold FBack at h
  refine T_seqp (p := []) (by kernel_rfl) ?_
  refine T_reg henv hC [] [(0, .p (.str s)), (1, .p (.int .u8 every))] [] [] (by kernel_rfl) (by kernel_rfl) trivial (fun s1 hs1 => ?_)
  refine (T.weaken ?_ hs1 : T Try.prog C (at_ cBack [1]) _ _)
  refine T_seqp (p := [1]) (by kernel_rfl) ?_
  refine T_seqp (p := [1, 0]) (by kernel_rfl) ?_
  refine T_reg henv hC [] [(0, .p (.str s)), (1, .p (.int .u8 every)), (12, .p (.bool (decide ((s.length : Int) > (3000 : Int)))))] [] [] (by kernel_rfl) (by kernel_rfl) trivial (fun s1 hs1 => ?_)
  refine (T.weaken ?_ hs1 : T Try.prog C (at_ cBack [1, 0, 1]) _ _)
  refine T_condp (p := [1, 0, 1]) (by kernel_rfl) (decide ((s.length : Int) > (3000 : Int))) (by kernel_rfl) (fun hb => ?_) (fun hb => ?_)
  · have h := ite_t h hb
    refine T_seqp (p := [1, 0, 1, 0]) (by kernel_rfl) ?_
    refine T_reg henv hC [] [(4, .p (.bool true))] [] [] (by kernel_rfl) (by kernel_rfl) trivial (fun s1 hs1 => ?_)
    refine (T.weaken ?_ hs1 : T Try.prog C (at_ cBack [1, 0, 1, 0, 1]) _ _)
    refine T_retp (p := [1, 0, 1, 0, 1]) (by kernel_rfl) ?_
    refine then_ret ?_
    have h := Option.some.inj h; subst h
    exact ⟨mkS [(4, .p (.bool true))] [], (Sub.refl _), by kernel_rfl⟩
  · have h := ite_f h hb
    refine T_skipp (p := [1, 0, 1, 1]) (by kernel_rfl) ?_
    refine (T.weaken ?_ (Sub.refl _) : T Try.prog C (at_ cBack [1, 1]) _ _)
    refine T_seqp (p := [1, 1]) (by kernel_rfl) ?_
    obtain ⟨hob, h⟩ := ite_get h
    refine T_reg henv hC [] [(0, .p (.str s)), (1, .p (.int .u8 every)), (5, .p (.str (encB s)))] [] [s.length ≤ 1000000] (by kernel_rfl) (by kernel_rfl) ⟨hob, trivial⟩ (fun s1 hs1 => ?_)
    refine (T.weaken ?_ hs1 : T Try.prog C (at_ cBack [1, 1, 1]) _ _)
    refine T_seqp (p := [1, 1, 1]) (by kernel_rfl) ?_
    obtain ⟨hob, h⟩ := ite_get h
    refine T_reg henv hC [] [(0, .p (.str s)), (1, .p (.int .u8 every)), (5, .p (.str (encB s))), (6, .p (.str ((decB (encB s)).1))), (7, .p (.int .i64 ((decB (encB s)).2)))] [] [(encB s).length ≤ 100000] (by kernel_rfl) (by kernel_rfl) ⟨hob, trivial⟩ (fun s1 hs1 => ?_)
    refine (T.weaken ?_ hs1 : T Try.prog C (at_ cBack [1, 1, 1, 1]) _ _)
    refine T_seqp (p := [1, 1, 1, 1]) (by kernel_rfl) ?_
    refine T_reg henv hC [(8, none)] [(0, .p (.str s)), (1, .p (.int .u8 every)), (5, .p (.str (encB s))), (6, .p (.str ((decB (encB s)).1))), (7, .p (.int .i64 ((decB (encB s)).2))), (8, .arr 8)] [(8, .barr 5 false [])] [] (by kernel_rfl) (by kernel_rfl) trivial (fun s1 hs1 => ?_)
    refine (T.weaken ?_ hs1 : T Try.prog C (at_ cBack [1, 1, 1, 1, 1]) _ _)
    refine T_seqp (p := [1, 1, 1, 1, 1]) (by kernel_rfl) ?_
    refine T_seqp (p := [1, 1, 1, 1, 1, 0]) (by kernel_rfl) ?_
    refine T_reg henv hC [(8, some 8)] [(0, .p (.str s)), (1, .p (.int .u8 every)), (5, .p (.str (encB s))), (6, .p (.str ((decB (encB s)).1))), (7, .p (.int .i64 ((decB (encB s)).2))), (8, .arr 8), (9, .p (.int .i64 (0 : Int)))] [(8, .barr 5 false [])] [] (by kernel_rfl) (by kernel_rfl) trivial (fun s1 hs1 => ?_)
    refine (T.weaken ?_ hs1 : T Try.prog C (at_ cBack [1, 1, 1, 1, 1, 0, 1]) _ _)
    refine T_blockp (p := [1, 1, 1, 1, 1, 0, 1]) 0 (by kernel_rfl) ?_
    refine T.weaken ?_ (Sub_view (l := [(0, .p (.str s)), (1, .p (.int .u8 every)), (5, .p (.str (encB s))), (6, .p (.str ((decB (encB s)).1))), (7, .p (.int .i64 ((decB (encB s)).2))), (8, .arr 8), (9, .p (.int .i64 (0 : Int)))]) (o := [(8, .barr 5 false [])]) hC [(8, some 8)] (by kernel_rfl) (by kernel_rfl) (by kernel_rfl))
    refine T_loopp (p := [1, 1, 1, 1, 1, 0, 1, 0]) (by kernel_rfl) (fun f1 s2 => ∃ (s : List UInt8) (every : Int) (vs1 : List UInt8) (vs2 : List UInt8) (vi3 : Int) (vi4 : Int) (vb5 : List UInt8), s2 = mkS [(0, .p (.str s)), (1, .p (.int .u8 every)), (5, .p (.str vs1)), (6, .p (.str vs2)), (7, .p (.int .i64 vi3)), (8, .arr 8), (9, .p (.int .i64 vi4))] [(8, .barr 5 false vb5)] ∧ BBack_1 fuel f1 s every vs1 vs2 vi3 vi4 vb5 = some res) ?_ fuel ⟨s, every, encB s, (decB (encB s)).1, (decB (encB s)).2, (0 : Int), [], rfl, h⟩
    rintro f1 s2 ⟨s, every, vs1, vs2, vi3, vi4, vb5, rfl, h⟩
    cases f1 with
    | zero => cases h
    | succ f1 =>
      rw [BBack_1] at h
      refine T_seqp (p := [1, 1, 1, 1, 1, 0, 1, 0, 0]) (by kernel_rfl) ?_
      refine T_seqp (p := [1, 1, 1, 1, 1, 0, 1, 0, 0, 0]) (by kernel_rfl) ?_
      refine T_reg henv hC [(8, some 8)] [(0, .p (.str s)), (1, .p (.int .u8 every)), (5, .p (.str vs1)), (6, .p (.str vs2)), (7, .p (.int .i64 vi3)), (8, .arr 8), (9, .p (.int .i64 vi4)), (24, .p (.bool (decide (vi4 < (vs1.length : Int)))))] [(8, .barr 5 false vb5)] [] (by kernel_rfl) (by kernel_rfl) trivial (fun s1 hs1 => ?_)
      refine (T.weaken ?_ hs1 : T Try.prog C (at_ cBack [1, 1, 1, 1, 1, 0, 1, 0, 0, 0, 1]) _ _)
      refine T_condp (p := [1, 1, 1, 1, 1, 0, 1, 0, 0, 0, 1]) (by kernel_rfl) (decide (vi4 < (vs1.length : Int))) (by kernel_rfl) (fun hb => ?_) (fun hb => ?_)
      · have h := ite_t h hb
        refine T_skipp (p := [1, 1, 1, 1, 1, 0, 1, 0, 0, 0, 1, 0]) (by kernel_rfl) ?_
        refine (T.weaken ?_ (Sub.refl _) : T Try.prog C (at_ cBack [1, 1, 1, 1, 1, 0, 1, 0, 0, 1]) _ _)
        refine T_seqp (p := [1, 1, 1, 1, 1, 0, 1, 0, 0, 1]) (by kernel_rfl) ?_
        refine T_blockp (p := [1, 1, 1, 1, 1, 0, 1, 0, 0, 1, 0]) 1 (by kernel_rfl) ?_
        refine T_join (p := [1, 1, 1, 1, 1, 0, 1, 0, 0, 1, 0, 0]) (by kernel_rfl) (fun s2 => ∃ (s : List UInt8) (every : Int) (vs1 : List UInt8) (vs2 : List UInt8) (vi3 : Int) (vi4 : Int) (vb6 : List UInt8), BBack_2 fuel (BBack_1 fuel f1) s every vs1 vs2 vi3 vi4 vb6 = some res ∧ Sub C s2 (mkS [(0, .p (.str s)), (1, .p (.int .u8 every)), (5, .p (.str vs1)), (6, .p (.str vs2)), (7, .p (.int .i64 vi3)), (8, .arr 8), (9, .p (.int .i64 vi4))] [(8, .barr 5 false vb6)])) ?_ ?_
        · refine T_seqp (p := [1, 1, 1, 1, 1, 0, 1, 0, 0, 1, 0, 0, 0]) (by kernel_rfl) ?_
          obtain ⟨hob, h⟩ := ite_get h
          refine T_reg henv hC [(8, some 8)] [(0, .p (.str s)), (1, .p (.int .u8 every)), (5, .p (.str vs1)), (6, .p (.str vs2)), (7, .p (.int .i64 vi3)), (8, .arr 8), (9, .p (.int .i64 vi4)), (33, .p (.bool ((vi4.tmod ((1 : Int) + (every.tmod (9 : Int)))) == (0 : Int))))] [(8, .barr 5 false vb5)] [(9 : Int) ≠ 0, i64ok ((1 : Int) + (every.tmod (9 : Int))), ((1 : Int) + (every.tmod (9 : Int))) ≠ 0] (by kernel_rfl) (by kernel_rfl) ⟨hob.1, hob.2.1, hob.2.2, trivial⟩ (fun s1 hs1 => ?_)
          refine (T.weaken ?_ hs1 : T Try.prog C (at_ cBack [1, 1, 1, 1, 1, 0, 1, 0, 0, 1, 0, 0, 0, 1]) _ _)
          refine T_condp (p := [1, 1, 1, 1, 1, 0, 1, 0, 0, 1, 0, 0, 0, 1]) (by kernel_rfl) ((vi4.tmod ((1 : Int) + (every.tmod (9 : Int)))) == (0 : Int)) (by kernel_rfl) (fun hb => ?_) (fun hb => ?_)
          · have h := ite_t h hb
            obtain ⟨hob, h⟩ := ite_get h
            refine T_reg henv hC [(8, some 35)] [(0, .p (.str s)), (1, .p (.int .u8 every)), (5, .p (.str vs1)), (6, .p (.str vs2)), (7, .p (.int .i64 vi3)), (8, .arr 8), (9, .p (.int .i64 vi4))] [(8, .barr 5 false (vb5 ++ ([13, 10, 32, 33, 45, 95, 46] : List UInt8)))] [(vb5.length + ([13, 10, 32, 33, 45, 95, 46] : List UInt8).length) * 1 ≤ 140737488355328] (by kernel_rfl) (by kernel_rfl) ⟨hob, trivial⟩ (fun s1 hs1 => ?_)
            exact ⟨s, every, vs1, vs2, vi3, vi4, vb5 ++ ([13, 10, 32, 33, 45, 95, 46] : List UInt8), h, Sub.trans hs1 (Sub_view hC [(8, some 8)] (by kernel_rfl) (by kernel_rfl) (by kernel_rfl))⟩
          · have h := ite_f h hb
            refine T_skipp (p := [1, 1, 1, 1, 1, 0, 1, 0, 0, 1, 0, 0, 0, 1, 1]) (by kernel_rfl) ?_
            exact ⟨s, every, vs1, vs2, vi3, vi4, vb5, h, Sub.trans (Sub.refl _) (Sub_view hC [(8, some 8)] (by kernel_rfl) (by kernel_rfl) (by kernel_rfl))⟩
        · rintro s2 ⟨s, every, vs1, vs2, vi3, vi4, vb6, h, hs2⟩
          unfold BBack_2 at h
          refine (T.weaken ?_ hs2 : T Try.prog C (at_ cBack [1, 1, 1, 1, 1, 0, 1, 0, 0, 1, 0, 0, 1]) _ _)
          obtain ⟨hob, h⟩ := ite_get h
          refine T_reg henv hC [(8, some 41)] [(0, .p (.str s)), (1, .p (.int .u8 every)), (5, .p (.str vs1)), (6, .p (.str vs2)), (7, .p (.int .i64 vi3)), (8, .arr 8), (9, .p (.int .i64 vi4))] [(8, .barr 5 false (vb6 ++ [UInt8.ofNat (((vs1.getD (vi4).toNat 0).toNat : Int)).toNat]))] [0 ≤ vi4 ∧ vi4 < (vs1.length : Int), (vb6.length + [UInt8.ofNat (((vs1.getD (vi4).toNat 0).toNat : Int)).toNat].length) * 1 ≤ 140737488355328] (by kernel_rfl) (by kernel_rfl) ⟨hob.1, hob.2, trivial⟩ (fun s1 hs1 => ?_)
          refine (T.weaken ?_ hs1 : T Try.prog C (at_ cBack [1, 1, 1, 1, 1, 0, 1, 0, 0, 1, 1]) _ _)
          obtain ⟨hob, h⟩ := ite_get h
          refine T_reg henv hC [(8, some 8)] [(0, .p (.str s)), (1, .p (.int .u8 every)), (5, .p (.str vs1)), (6, .p (.str vs2)), (7, .p (.int .i64 vi3)), (8, .arr 8), (9, .p (.int .i64 (vi4 + (1 : Int))))] [(8, .barr 5 false (vb6 ++ [UInt8.ofNat (((vs1.getD (vi4).toNat 0).toNat : Int)).toNat]))] [i64ok (vi4 + (1 : Int))] (by kernel_rfl) (by kernel_rfl) ⟨hob, trivial⟩ (fun s1 hs1 => ?_)
          exact ⟨f1, _, Nat.lt_succ_self f1, ⟨s, every, vs1, vs2, vi3, vi4 + (1 : Int), vb6 ++ [UInt8.ofNat (((vs1.getD (vi4).toNat 0).toNat : Int)).toNat], rfl, h⟩, Sub.trans hs1 (Sub_view hC [(8, some 8)] (by kernel_rfl) (by kernel_rfl) (by kernel_rfl))⟩
      · have h := ite_f h hb
        refine T_exitp (p := [1, 1, 1, 1, 1, 0, 1, 0, 0, 0, 1, 1]) 0 (by kernel_rfl) ?_
        refine then_exit ?_
        refine then_exit ?_
        refine inblock_hit ?_
        refine (T.weaken ?_ (Sub.refl _) : T Try.prog C (at_ cBack [1, 1, 1, 1, 1, 1]) _ _)
        refine T_seqp (p := [1, 1, 1, 1, 1, 1]) (by kernel_rfl) ?_
        obtain ⟨hob, h⟩ := ite_get h
        refine T_reg henv hC [] [(4, .p (.bool ((((((vs2 == s) && (vi3 == (0 : Int))) && ((looseB vs1) == s)) && ((looseB vb5) == s)) && ((vs1.length : Int) == ((((s.length : Int) + (2 : Int)).tdiv (3 : Int)) * (4 : Int)))) && true)))] [] [(vs2 == s) = true → (vs2 == s) = true, (vs2 == s) = true → (vs2 == s) = true, (vs2 == s) = true → (vs2 == s) = true, ((vs2 == s) && (vi3 == (0 : Int))) = true → ((vs2 == s) && (vi3 == (0 : Int))) = true, ((vs2 == s) && (vi3 == (0 : Int))) = true → vs1.length ≤ 1000000, ((vs2 == s) && (vi3 == (0 : Int))) = true → ((vs2 == s) && (vi3 == (0 : Int))) = true, ((vs2 == s) && (vi3 == (0 : Int))) = true → ((vs2 == s) && (vi3 == (0 : Int))) = true, ((vs2 == s) && (vi3 == (0 : Int))) = true → ((vs2 == s) && (vi3 == (0 : Int))) = true, (((vs2 == s) && (vi3 == (0 : Int))) && ((looseB vs1) == s)) = true → (((vs2 == s) && (vi3 == (0 : Int))) && ((looseB vs1) == s)) = true, (((vs2 == s) && (vi3 == (0 : Int))) && ((looseB vs1) == s)) = true → (((vs2 == s) && (vi3 == (0 : Int))) && ((looseB vs1) == s)) = true, (((vs2 == s) && (vi3 == (0 : Int))) && ((looseB vs1) == s)) = true → vb5.length ≤ 1000000, (((vs2 == s) && (vi3 == (0 : Int))) && ((looseB vs1) == s)) = true → (((vs2 == s) && (vi3 == (0 : Int))) && ((looseB vs1) == s)) = true, (((vs2 == s) && (vi3 == (0 : Int))) && ((looseB vs1) == s)) = true → (((vs2 == s) && (vi3 == (0 : Int))) && ((looseB vs1) == s)) = true, (((vs2 == s) && (vi3 == (0 : Int))) && ((looseB vs1) == s)) = true → (((vs2 == s) && (vi3 == (0 : Int))) && ((looseB vs1) == s)) = true, ((((vs2 == s) && (vi3 == (0 : Int))) && ((looseB vs1) == s)) && ((looseB vb5) == s)) = true → ((((vs2 == s) && (vi3 == (0 : Int))) && ((looseB vs1) == s)) && ((looseB vb5) == s)) = true, ((((vs2 == s) && (vi3 == (0 : Int))) && ((looseB vs1) == s)) && ((looseB vb5) == s)) = true → ((((vs2 == s) && (vi3 == (0 : Int))) && ((looseB vs1) == s)) && ((looseB vb5) == s)) = true, ((((vs2 == s) && (vi3 == (0 : Int))) && ((looseB vs1) == s)) && ((looseB vb5) == s)) = true → ((((vs2 == s) && (vi3 == (0 : Int))) && ((looseB vs1) == s)) && ((looseB vb5) == s)) = true, ((((vs2 == s) && (vi3 == (0 : Int))) && ((looseB vs1) == s)) && ((looseB vb5) == s)) = true → i64ok ((s.length : Int) + (2 : Int)), ((((vs2 == s) && (vi3 == (0 : Int))) && ((looseB vs1) == s)) && ((looseB vb5) == s)) = true → ((((vs2 == s) && (vi3 == (0 : Int))) && ((looseB vs1) == s)) && ((looseB vb5) == s)) = true, ((((vs2 == s) && (vi3 == (0 : Int))) && ((looseB vs1) == s)) && ((looseB vb5) == s)) = true → (3 : Int) ≠ 0 ∧ i64ok (((s.length : Int) + (2 : Int)).tdiv (3 : Int)), ((((vs2 == s) && (vi3 == (0 : Int))) && ((looseB vs1) == s)) && ((looseB vb5) == s)) = true → ((((vs2 == s) && (vi3 == (0 : Int))) && ((looseB vs1) == s)) && ((looseB vb5) == s)) = true, ((((vs2 == s) && (vi3 == (0 : Int))) && ((looseB vs1) == s)) && ((looseB vb5) == s)) = true → i64ok ((((s.length : Int) + (2 : Int)).tdiv (3 : Int)) * (4 : Int)), ((((vs2 == s) && (vi3 == (0 : Int))) && ((looseB vs1) == s)) && ((looseB vb5) == s)) = true → ((((vs2 == s) && (vi3 == (0 : Int))) && ((looseB vs1) == s)) && ((looseB vb5) == s)) = true, ((((vs2 == s) && (vi3 == (0 : Int))) && ((looseB vs1) == s)) && ((looseB vb5) == s)) = true → ((((vs2 == s) && (vi3 == (0 : Int))) && ((looseB vs1) == s)) && ((looseB vb5) == s)) = true, ((((vs2 == s) && (vi3 == (0 : Int))) && ((looseB vs1) == s)) && ((looseB vb5) == s)) = true → ((((vs2 == s) && (vi3 == (0 : Int))) && ((looseB vs1) == s)) && ((looseB vb5) == s)) = true, (((((vs2 == s) && (vi3 == (0 : Int))) && ((looseB vs1) == s)) && ((looseB vb5) == s)) && ((vs1.length : Int) == ((((s.length : Int) + (2 : Int)).tdiv (3 : Int)) * (4 : Int)))) = true → (((((vs2 == s) && (vi3 == (0 : Int))) && ((looseB vs1) == s)) && ((looseB vb5) == s)) && ((vs1.length : Int) == ((((s.length : Int) + (2 : Int)).tdiv (3 : Int)) * (4 : Int)))) = true] (by kernel_rfl) (by kernel_rfl) ⟨(fun q0 => q0), (fun q0 => q0), (fun q0 => q0), (fun q0 => q0), hob.1, (fun q0 => q0), (fun q0 => q0), (fun q0 => q0), (fun q0 => q0), (fun q0 => q0), hob.2.1, (fun q0 => q0), (fun q0 => q0), (fun q0 => q0), (fun q0 => q0), (fun q0 => q0), (fun q0 => q0), hob.2.2.1, (fun q0 => q0), hob.2.2.2.1, (fun q0 => q0), hob.2.2.2.2, (fun q0 => q0), (fun q0 => q0), (fun q0 => q0), (fun q0 => q0), trivial⟩ (fun s1 hs1 => ?_)
        refine (T.weaken ?_ hs1 : T Try.prog C (at_ cBack [1, 1, 1, 1, 1, 1, 1]) _ _)
        refine T_retp (p := [1, 1, 1, 1, 1, 1, 1]) (by kernel_rfl) ?_
        have h := Option.some.inj h; subst h
        exact ⟨mkS [(4, .p (.bool ((((((vs2 == s) && (vi3 == (0 : Int))) && ((looseB vs1) == s)) && ((looseB vb5) == s)) && ((vs1.length : Int) == ((((s.length : Int) + (2 : Int)).tdiv (3 : Int)) * (4 : Int)))) && true)))] [], (Sub.refl _), by kernel_rfl⟩

theorem fn_Back (fuel : Nat) (s : List UInt8) (every : Int) (res : Bool) (h : (∃ M vs, ARels γ0 M [.p (.str s), .p (.int .u8 every)] vs) → FBack fuel s every = some res) : FnP Try.prog 6 [.p (.str s), .p (.int .u8 every)] (.p (.bool res)) :=
  FnP_lift (fn := Try.f6) (by kernel_rfl) (by kernel_rfl) fun M vs hvs C hC0 => have hC : CtxOk C 76 [] := ⟨hC0.nt.trans (by kernel_rfl), hC0.fx⟩; T.weaken (TBack fuel s every res (h ⟨M, vs, hvs⟩) C hC) (sinit_sub hC (by kernel_rfl) (by kernel_rfl))
end Go.Proofs.Ytdjlilhdgnogaaa
