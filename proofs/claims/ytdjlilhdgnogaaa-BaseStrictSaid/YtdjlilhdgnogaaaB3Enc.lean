/-
  Lifted functions, and facts about them.
-/
import Derived.Test.YtdjlilhdgnogaaaRows
import Derived.Test.YtdjlilhdgnogaaaAmB
import Derived.Test.YtdjlilhdgnogaaaB3Lits
import Derived.Test.YtdjlilhdgnogaaaB3Spec
set_option linter.unusedVariables false
namespace Go.Proofs.Ytdjlilhdgnogaaa
open Go Go.Am
def BEncode_2 (fuel : Nat)  (vb3 : List UInt8) : Option (List UInt8) := some vb3

def BEncode_1 (fuel : Nat)  : Nat → List UInt8 → List UInt8 → Option (List UInt8)
  | 0, _, _ => none
  | f1 + 1, vs1, vb2 => if (decide ((vs1.length : Int) ≥ (3 : Int))) = true then (if (0 ≤ (0 : Int) ∧ (0 : Int) < (vs1.length : Int)) ∧ (0 ≤ (16 : Int)) ∧ (0 ≤ (1 : Int) ∧ (1 : Int) < (vs1.length : Int)) ∧ (0 ≤ (8 : Int)) ∧ (0 ≤ (2 : Int) ∧ (2 : Int) < (vs1.length : Int)) ∧ (letok (ibits .or .i64 (ibits .or .i64 (IntKind.i64.wrap (((vs1.getD ((0 : Int)).toNat 0).toNat : Int) * 2 ^ (min ((16 : Int)).toNat 64))) (IntKind.i64.wrap (((vs1.getD ((1 : Int)).toNat 0).toNat : Int) * 2 ^ (min ((8 : Int)).toNat 64)))) ((vs1.getD ((2 : Int)).toNat 0).toNat : Int)) (4 : Int)) ∧ ((vb2.length + (letS (ibits .or .i64 (ibits .or .i64 (IntKind.i64.wrap (((vs1.getD ((0 : Int)).toNat 0).toNat : Int) * 2 ^ (min ((16 : Int)).toNat 64))) (IntKind.i64.wrap (((vs1.getD ((1 : Int)).toNat 0).toNat : Int) * 2 ^ (min ((8 : Int)).toNat 64)))) ((vs1.getD ((2 : Int)).toNat 0).toNat : Int)) ((4 : Int)).toNat).length) * 1 ≤ 140737488355328) then (if 0 ≤ (3 : Int) ∧ (3 : Int) ≤ (vs1.length : Int) then (BEncode_1 fuel f1 (vs1.drop ((3 : Int)).toNat) (vb2 ++ (letS (ibits .or .i64 (ibits .or .i64 (IntKind.i64.wrap (((vs1.getD ((0 : Int)).toNat 0).toNat : Int) * 2 ^ (min ((16 : Int)).toNat 64))) (IntKind.i64.wrap (((vs1.getD ((1 : Int)).toNat 0).toNat : Int) * 2 ^ (min ((8 : Int)).toNat 64)))) ((vs1.getD ((2 : Int)).toNat 0).toNat : Int)) ((4 : Int)).toNat))) else none) else none) else (if ((vs1.length : Int) == (1 : Int)) = true then (if (0 ≤ (0 : Int) ∧ (0 : Int) < (vs1.length : Int)) ∧ (0 ≤ (16 : Int)) ∧ (letok (IntKind.i64.wrap (((vs1.getD ((0 : Int)).toNat 0).toNat : Int) * 2 ^ (min ((16 : Int)).toNat 64))) (2 : Int)) ∧ ((vb2.length + (letS (IntKind.i64.wrap (((vs1.getD ((0 : Int)).toNat 0).toNat : Int) * 2 ^ (min ((16 : Int)).toNat 64))) ((2 : Int)).toNat).length) * 1 ≤ 140737488355328) ∧ (((vb2 ++ (letS (IntKind.i64.wrap (((vs1.getD ((0 : Int)).toNat 0).toNat : Int) * 2 ^ (min ((16 : Int)).toNat 64))) ((2 : Int)).toNat)).length + ([61, 61] : List UInt8).length) * 1 ≤ 140737488355328) then (BEncode_2 fuel ((vb2 ++ (letS (IntKind.i64.wrap (((vs1.getD ((0 : Int)).toNat 0).toNat : Int) * 2 ^ (min ((16 : Int)).toNat 64))) ((2 : Int)).toNat)) ++ ([61, 61] : List UInt8))) else none) else (if ((vs1.length : Int) == (2 : Int)) = true then (if (0 ≤ (0 : Int) ∧ (0 : Int) < (vs1.length : Int)) ∧ (0 ≤ (16 : Int)) ∧ (0 ≤ (1 : Int) ∧ (1 : Int) < (vs1.length : Int)) ∧ (0 ≤ (8 : Int)) ∧ (letok (ibits .or .i64 (IntKind.i64.wrap (((vs1.getD ((0 : Int)).toNat 0).toNat : Int) * 2 ^ (min ((16 : Int)).toNat 64))) (IntKind.i64.wrap (((vs1.getD ((1 : Int)).toNat 0).toNat : Int) * 2 ^ (min ((8 : Int)).toNat 64)))) (3 : Int)) ∧ ((vb2.length + (letS (ibits .or .i64 (IntKind.i64.wrap (((vs1.getD ((0 : Int)).toNat 0).toNat : Int) * 2 ^ (min ((16 : Int)).toNat 64))) (IntKind.i64.wrap (((vs1.getD ((1 : Int)).toNat 0).toNat : Int) * 2 ^ (min ((8 : Int)).toNat 64)))) ((3 : Int)).toNat).length) * 1 ≤ 140737488355328) ∧ (((vb2 ++ (letS (ibits .or .i64 (IntKind.i64.wrap (((vs1.getD ((0 : Int)).toNat 0).toNat : Int) * 2 ^ (min ((16 : Int)).toNat 64))) (IntKind.i64.wrap (((vs1.getD ((1 : Int)).toNat 0).toNat : Int) * 2 ^ (min ((8 : Int)).toNat 64)))) ((3 : Int)).toNat)).length + [UInt8.ofNat ((61 : Int)).toNat].length) * 1 ≤ 140737488355328) then (BEncode_2 fuel ((vb2 ++ (letS (ibits .or .i64 (IntKind.i64.wrap (((vs1.getD ((0 : Int)).toNat 0).toNat : Int) * 2 ^ (min ((16 : Int)).toNat 64))) (IntKind.i64.wrap (((vs1.getD ((1 : Int)).toNat 0).toNat : Int) * 2 ^ (min ((8 : Int)).toNat 64)))) ((3 : Int)).toNat)) ++ [UInt8.ofNat ((61 : Int)).toNat])) else none) else (BEncode_2 fuel vb2)))

def FEncode (fuel : Nat) (s : List UInt8) : Option (List UInt8) := BEncode_1 fuel fuel s []

noncomputable def cEncode : Code := bodyOf Try.f9

def envEncode : Env := mkEnv [(16, sp_letters)]

theorem envEncode_ok : EnvOk Try.prog envEncode := EnvOk_mk ⟨ok_letters.any, trivial⟩

def envrEncode : EnvR := mkEnvR []

theorem envrEncode_ok : EnvROk Try.prog envrEncode := EnvROk_mk trivial

theorem TEncode (fuel : Nat) (s : List UInt8) (res : List UInt8) (h : FEncode fuel s = some res) (C : Ctx) (hC : CtxOk C 55 []) :
    T Try.prog C (at_ cEncode []) (mkS [(0, .p (.str s))] []) (Qend Try.prog C Try.f9.results.toList (.p (.str res))) := by
  have henv := envEncode_ok
  have henvR := envrEncode_ok
  have hmx : Try.prog.follows .mixedOrders = true := Checked.mixed Try.checked
  unfold FEncode at h
  refine T_seqp (p := []) (by kernel_rfl) ?_
  refine T_reg henv hC [] [(0, .p (.str s))] [] [] (by kernel_rfl) (by kernel_rfl) trivial (fun s1 hs1 => ?_)
  refine (T.weaken ?_ hs1 : T Try.prog C (at_ cEncode [1]) _ _)
  refine T_seqp (p := [1]) (by kernel_rfl) ?_
  refine T_reg henv hC [(3, none)] [(0, .p (.str s)), (3, .arr 3)] [(3, .barr 5 false [])] [] (by kernel_rfl) (by kernel_rfl) trivial (fun s1 hs1 => ?_)
  refine (T.weaken ?_ hs1 : T Try.prog C (at_ cEncode [1, 1]) _ _)
  refine T_seqp (p := [1, 1]) (by kernel_rfl) ?_
  refine T_blockp (p := [1, 1, 0]) 0 (by kernel_rfl) ?_
  refine T.weaken ?_ (Sub_view (l := [(0, .p (.str s)), (3, .arr 3)]) (o := [(3, .barr 5 false [])]) hC [(3, some 3)] (by kernel_rfl) (by kernel_rfl) (by kernel_rfl))
  refine T_loopp (p := [1, 1, 0, 0]) (by kernel_rfl) (fun f1 s2 => ∃ (vs1 : List UInt8) (vb2 : List UInt8), s2 = mkS [(0, .p (.str vs1)), (3, .arr 3)] [(3, .barr 5 false vb2)] ∧ BEncode_1 fuel f1 vs1 vb2 = some res) ?_ fuel ⟨s, [], rfl, h⟩
  rintro f1 s2 ⟨vs1, vb2, rfl, h⟩
  cases f1 with
  | zero => cases h
  | succ f1 =>
    rw [BEncode_1] at h
    refine T_seqp (p := [1, 1, 0, 0, 0]) (by kernel_rfl) ?_
    refine T_seqp (p := [1, 1, 0, 0, 0, 0]) (by kernel_rfl) ?_
    refine T_reg henv hC [(3, some 3)] [(0, .p (.str vs1)), (3, .arr 3), (6, .p (.bool (decide ((vs1.length : Int) ≥ (3 : Int)))))] [(3, .barr 5 false vb2)] [] (by kernel_rfl) (by kernel_rfl) trivial (fun s1 hs1 => ?_)
    refine (T.weaken ?_ hs1 : T Try.prog C (at_ cEncode [1, 1, 0, 0, 0, 0, 1]) _ _)
    refine T_condp (p := [1, 1, 0, 0, 0, 0, 1]) (by kernel_rfl) (decide ((vs1.length : Int) ≥ (3 : Int))) (by kernel_rfl) (fun hb => ?_) (fun hb => ?_)
    · have h := ite_t h hb
      refine T_skipp (p := [1, 1, 0, 0, 0, 0, 1, 0]) (by kernel_rfl) ?_
      refine (T.weaken ?_ (Sub.refl _) : T Try.prog C (at_ cEncode [1, 1, 0, 0, 0, 1]) _ _)
      refine T_blockp (p := [1, 1, 0, 0, 0, 1]) 1 (by kernel_rfl) ?_
      refine T_seqp (p := [1, 1, 0, 0, 0, 1, 0]) (by kernel_rfl) ?_
      obtain ⟨hob, h⟩ := ite_get h
      refine T_regdW henv henvR hmx hC [] [(3, some 22)] [(0, .p (.str vs1)), (3, .arr 3)] [(3, .barr 5 false (vb2 ++ (letS (ibits .or .i64 (ibits .or .i64 (IntKind.i64.wrap (((vs1.getD ((0 : Int)).toNat 0).toNat : Int) * 2 ^ (min ((16 : Int)).toNat 64))) (IntKind.i64.wrap (((vs1.getD ((1 : Int)).toNat 0).toNat : Int) * 2 ^ (min ((8 : Int)).toNat 64)))) ((vs1.getD ((2 : Int)).toNat 0).toNat : Int)) ((4 : Int)).toNat)))] [0 ≤ (0 : Int) ∧ (0 : Int) < (vs1.length : Int), 0 ≤ (16 : Int), 0 ≤ (1 : Int) ∧ (1 : Int) < (vs1.length : Int), 0 ≤ (8 : Int), 0 ≤ (2 : Int) ∧ (2 : Int) < (vs1.length : Int), letok (ibits .or .i64 (ibits .or .i64 (IntKind.i64.wrap (((vs1.getD ((0 : Int)).toNat 0).toNat : Int) * 2 ^ (min ((16 : Int)).toNat 64))) (IntKind.i64.wrap (((vs1.getD ((1 : Int)).toNat 0).toNat : Int) * 2 ^ (min ((8 : Int)).toNat 64)))) ((vs1.getD ((2 : Int)).toNat 0).toNat : Int)) (4 : Int), (vb2.length + (letS (ibits .or .i64 (ibits .or .i64 (IntKind.i64.wrap (((vs1.getD ((0 : Int)).toNat 0).toNat : Int) * 2 ^ (min ((16 : Int)).toNat 64))) (IntKind.i64.wrap (((vs1.getD ((1 : Int)).toNat 0).toNat : Int) * 2 ^ (min ((8 : Int)).toNat 64)))) ((vs1.getD ((2 : Int)).toNat 0).toNat : Int)) ((4 : Int)).toNat).length) * 1 ≤ 140737488355328] (by kernel_rfl) (by kernel_rfl) (by kernel_rfl) ⟨hob.1, hob.2.1, hob.2.2.1, hob.2.2.2.1, hob.2.2.2.2.1, hob.2.2.2.2.2.1, hob.2.2.2.2.2.2, trivial⟩ (fun s1 hs1 => ?_)
      refine (T.weaken ?_ hs1 : T Try.prog C (at_ cEncode [1, 1, 0, 0, 0, 1, 0, 1]) _ _)
      obtain ⟨hob, h⟩ := ite_get h
      refine T_reg henv hC [(3, some 3)] [(0, .p (.str (vs1.drop ((3 : Int)).toNat))), (3, .arr 3)] [(3, .barr 5 false (vb2 ++ (letS (ibits .or .i64 (ibits .or .i64 (IntKind.i64.wrap (((vs1.getD ((0 : Int)).toNat 0).toNat : Int) * 2 ^ (min ((16 : Int)).toNat 64))) (IntKind.i64.wrap (((vs1.getD ((1 : Int)).toNat 0).toNat : Int) * 2 ^ (min ((8 : Int)).toNat 64)))) ((vs1.getD ((2 : Int)).toNat 0).toNat : Int)) ((4 : Int)).toNat)))] [0 ≤ (3 : Int) ∧ (3 : Int) ≤ (vs1.length : Int)] (by kernel_rfl) (by kernel_rfl) ⟨hob, trivial⟩ (fun s1 hs1 => ?_)
      exact ⟨f1, _, Nat.lt_succ_self f1, ⟨vs1.drop ((3 : Int)).toNat, vb2 ++ (letS (ibits .or .i64 (ibits .or .i64 (IntKind.i64.wrap (((vs1.getD ((0 : Int)).toNat 0).toNat : Int) * 2 ^ (min ((16 : Int)).toNat 64))) (IntKind.i64.wrap (((vs1.getD ((1 : Int)).toNat 0).toNat : Int) * 2 ^ (min ((8 : Int)).toNat 64)))) ((vs1.getD ((2 : Int)).toNat 0).toNat : Int)) ((4 : Int)).toNat), rfl, h⟩, Sub.trans hs1 (Sub_view hC [(3, some 3)] (by kernel_rfl) (by kernel_rfl) (by kernel_rfl))⟩
    · have h := ite_f h hb
      refine T_exitp (p := [1, 1, 0, 0, 0, 0, 1, 1]) 0 (by kernel_rfl) ?_
      refine then_exit ?_
      refine then_exit ?_
      refine inblock_hit ?_
      refine (T.weaken ?_ (Sub.refl _) : T Try.prog C (at_ cEncode [1, 1, 1]) _ _)
      refine T_join (p := [1, 1, 1]) (by kernel_rfl) (fun s2 => ∃ (vb3 : List UInt8), BEncode_2 fuel vb3 = some res ∧ Sub C s2 (mkS [(3, .arr 3)] [(3, .barr 5 false vb3)])) ?_ ?_
      · refine T_seqp (p := [1, 1, 1, 0]) (by kernel_rfl) ?_
        refine T_reg henv hC [(3, some 3)] [(0, .p (.str vs1)), (3, .arr 3), (26, .p (.int .i64 (vs1.length : Int)))] [(3, .barr 5 false vb2)] [] (by kernel_rfl) (by kernel_rfl) trivial (fun s1 hs1 => ?_)
        refine (T.weaken ?_ hs1 : T Try.prog C (at_ cEncode [1, 1, 1, 0, 1]) _ _)
        refine T_blockp (p := [1, 1, 1, 0, 1]) 2 (by kernel_rfl) ?_
        refine T_seqp (p := [1, 1, 1, 0, 1, 0]) (by kernel_rfl) ?_
        refine T_reg henv hC [(3, some 3)] [(0, .p (.str vs1)), (3, .arr 3), (26, .p (.int .i64 (vs1.length : Int))), (27, .p (.bool ((vs1.length : Int) == (1 : Int))))] [(3, .barr 5 false vb2)] [] (by kernel_rfl) (by kernel_rfl) trivial (fun s1 hs1 => ?_)
        refine (T.weaken ?_ hs1 : T Try.prog C (at_ cEncode [1, 1, 1, 0, 1, 0, 1]) _ _)
        refine T_condp (p := [1, 1, 1, 0, 1, 0, 1]) (by kernel_rfl) ((vs1.length : Int) == (1 : Int)) (by kernel_rfl) (fun hb => ?_) (fun hb => ?_)
        · have h := ite_t h hb
          obtain ⟨hob, h⟩ := ite_get h
          refine T_reg henv hC [(3, some 36)] [(3, .arr 3)] [(3, .barr 5 false ((vb2 ++ (letS (IntKind.i64.wrap (((vs1.getD ((0 : Int)).toNat 0).toNat : Int) * 2 ^ (min ((16 : Int)).toNat 64))) ((2 : Int)).toNat)) ++ ([61, 61] : List UInt8)))] [0 ≤ (0 : Int) ∧ (0 : Int) < (vs1.length : Int), 0 ≤ (16 : Int), letok (IntKind.i64.wrap (((vs1.getD ((0 : Int)).toNat 0).toNat : Int) * 2 ^ (min ((16 : Int)).toNat 64))) (2 : Int), (vb2.length + (letS (IntKind.i64.wrap (((vs1.getD ((0 : Int)).toNat 0).toNat : Int) * 2 ^ (min ((16 : Int)).toNat 64))) ((2 : Int)).toNat).length) * 1 ≤ 140737488355328, ((vb2 ++ (letS (IntKind.i64.wrap (((vs1.getD ((0 : Int)).toNat 0).toNat : Int) * 2 ^ (min ((16 : Int)).toNat 64))) ((2 : Int)).toNat)).length + ([61, 61] : List UInt8).length) * 1 ≤ 140737488355328] (by kernel_rfl) (by kernel_rfl) ⟨hob.1, hob.2.1, hob.2.2.1, hob.2.2.2.1, hob.2.2.2.2, trivial⟩ (fun s1 hs1 => ?_)
          exact ⟨(vb2 ++ (letS (IntKind.i64.wrap (((vs1.getD ((0 : Int)).toNat 0).toNat : Int) * 2 ^ (min ((16 : Int)).toNat 64))) ((2 : Int)).toNat)) ++ ([61, 61] : List UInt8), h, Sub.trans hs1 (Sub_view hC [(3, some 3)] (by kernel_rfl) (by kernel_rfl) (by kernel_rfl))⟩
        · have h := ite_f h hb
          refine T_seqp (p := [1, 1, 1, 0, 1, 0, 1, 1]) (by kernel_rfl) ?_
          refine T_reg henv hC [(3, some 3)] [(0, .p (.str vs1)), (3, .arr 3), (37, .p (.bool ((vs1.length : Int) == (2 : Int))))] [(3, .barr 5 false vb2)] [] (by kernel_rfl) (by kernel_rfl) trivial (fun s1 hs1 => ?_)
          refine (T.weaken ?_ hs1 : T Try.prog C (at_ cEncode [1, 1, 1, 0, 1, 0, 1, 1, 1]) _ _)
          refine T_condp (p := [1, 1, 1, 0, 1, 0, 1, 1, 1]) (by kernel_rfl) ((vs1.length : Int) == (2 : Int)) (by kernel_rfl) (fun hb => ?_) (fun hb => ?_)
          · have h := ite_t h hb
            obtain ⟨hob, h⟩ := ite_get h
            refine T_regdW henv henvR hmx hC [] [(3, some 52)] [(3, .arr 3)] [(3, .barr 5 false ((vb2 ++ (letS (ibits .or .i64 (IntKind.i64.wrap (((vs1.getD ((0 : Int)).toNat 0).toNat : Int) * 2 ^ (min ((16 : Int)).toNat 64))) (IntKind.i64.wrap (((vs1.getD ((1 : Int)).toNat 0).toNat : Int) * 2 ^ (min ((8 : Int)).toNat 64)))) ((3 : Int)).toNat)) ++ [UInt8.ofNat ((61 : Int)).toNat]))] [0 ≤ (0 : Int) ∧ (0 : Int) < (vs1.length : Int), 0 ≤ (16 : Int), 0 ≤ (1 : Int) ∧ (1 : Int) < (vs1.length : Int), 0 ≤ (8 : Int), letok (ibits .or .i64 (IntKind.i64.wrap (((vs1.getD ((0 : Int)).toNat 0).toNat : Int) * 2 ^ (min ((16 : Int)).toNat 64))) (IntKind.i64.wrap (((vs1.getD ((1 : Int)).toNat 0).toNat : Int) * 2 ^ (min ((8 : Int)).toNat 64)))) (3 : Int), (vb2.length + (letS (ibits .or .i64 (IntKind.i64.wrap (((vs1.getD ((0 : Int)).toNat 0).toNat : Int) * 2 ^ (min ((16 : Int)).toNat 64))) (IntKind.i64.wrap (((vs1.getD ((1 : Int)).toNat 0).toNat : Int) * 2 ^ (min ((8 : Int)).toNat 64)))) ((3 : Int)).toNat).length) * 1 ≤ 140737488355328, ((vb2 ++ (letS (ibits .or .i64 (IntKind.i64.wrap (((vs1.getD ((0 : Int)).toNat 0).toNat : Int) * 2 ^ (min ((16 : Int)).toNat 64))) (IntKind.i64.wrap (((vs1.getD ((1 : Int)).toNat 0).toNat : Int) * 2 ^ (min ((8 : Int)).toNat 64)))) ((3 : Int)).toNat)).length + [UInt8.ofNat ((61 : Int)).toNat].length) * 1 ≤ 140737488355328] (by kernel_rfl) (by kernel_rfl) (by kernel_rfl) ⟨hob.1, hob.2.1, hob.2.2.1, hob.2.2.2.1, hob.2.2.2.2.1, hob.2.2.2.2.2.1, hob.2.2.2.2.2.2, trivial⟩ (fun s1 hs1 => ?_)
            exact ⟨(vb2 ++ (letS (ibits .or .i64 (IntKind.i64.wrap (((vs1.getD ((0 : Int)).toNat 0).toNat : Int) * 2 ^ (min ((16 : Int)).toNat 64))) (IntKind.i64.wrap (((vs1.getD ((1 : Int)).toNat 0).toNat : Int) * 2 ^ (min ((8 : Int)).toNat 64)))) ((3 : Int)).toNat)) ++ [UInt8.ofNat ((61 : Int)).toNat], h, Sub.trans hs1 (Sub_view hC [(3, some 3)] (by kernel_rfl) (by kernel_rfl) (by kernel_rfl))⟩
          · have h := ite_f h hb
            refine T_skipp (p := [1, 1, 1, 0, 1, 0, 1, 1, 1, 1]) (by kernel_rfl) ?_
            exact ⟨vb2, h, Sub.trans (Sub.refl _) (Sub_view hC [(3, some 3)] (by kernel_rfl) (by kernel_rfl) (by kernel_rfl))⟩
      · rintro s2 ⟨vb3, h, hs2⟩
        unfold BEncode_2 at h
        refine (T.weaken ?_ hs2 : T Try.prog C (at_ cEncode [1, 1, 1, 1]) _ _)
        refine T_seqp (p := [1, 1, 1, 1]) (by kernel_rfl) ?_
        refine T_reg henv hC [] [(2, .p (.str vb3))] [] [] (by kernel_rfl) (by kernel_rfl) trivial (fun s1 hs1 => ?_)
        refine (T.weaken ?_ hs1 : T Try.prog C (at_ cEncode [1, 1, 1, 1, 1]) _ _)
        refine T_retp (p := [1, 1, 1, 1, 1]) (by kernel_rfl) ?_
        have h := Option.some.inj h; subst h
        exact ⟨mkS [(2, .p (.str vb3))] [], (Sub.refl _), by kernel_rfl⟩

theorem fn_Encode (fuel : Nat) (s : List UInt8) (res : List UInt8) (h : (∃ M vs, ARels γ0 M [.p (.str s)] vs) → FEncode fuel s = some res) : FnP Try.prog 9 [.p (.str s)] (.p (.str res)) :=
  FnP_lift (fn := Try.f9) (by kernel_rfl) (by kernel_rfl) fun M vs hvs C hC0 => have hC : CtxOk C 55 [] := ⟨hC0.nt.trans (by kernel_rfl), hC0.fx⟩; T.weaken (TEncode fuel s res (h ⟨M, vs, hvs⟩) C hC) (sinit_sub hC (by kernel_rfl) (by kernel_rfl))
end Go.Proofs.Ytdjlilhdgnogaaa
