/-
  Lifted functions, and facts about them.
-/
import Derived.Test.YthfgklcdkehgjaaDoorRows
import Derived.Test.YthfgklcdkehgjaaDoorAmC
import Derived.Test.YthfgklcdkehgjaaDoorC13B64Leaf
namespace Go.Proofs.YthfgklcdkehgjaaDoor
open Go Go.Am
set_option linter.unusedVariables false
def BEncode_2 (fuel : Nat)  (vb3 : List UInt8) : Option (List UInt8) := some vb3

def BEncode_1 (fuel : Nat)  : Nat → List UInt8 → List UInt8 → Option (List UInt8)
  | 0, _, _ => none
  | f1 + 1, vs1, vb2 => if (decide ((vs1.length : Int) ≥ (3 : Int))) = true then (if (0 ≤ (0 : Int) ∧ (0 : Int) < (vs1.length : Int)) ∧ (0 ≤ (16 : Int)) ∧ (0 ≤ (1 : Int) ∧ (1 : Int) < (vs1.length : Int)) ∧ (0 ≤ (8 : Int)) ∧ (0 ≤ (2 : Int) ∧ (2 : Int) < (vs1.length : Int)) ∧ (letok (ibits .or .i64 (ibits .or .i64 (IntKind.i64.wrap (((vs1.getD ((0 : Int)).toNat 0).toNat : Int) * 2 ^ (min ((16 : Int)).toNat 64))) (IntKind.i64.wrap (((vs1.getD ((1 : Int)).toNat 0).toNat : Int) * 2 ^ (min ((8 : Int)).toNat 64)))) ((vs1.getD ((2 : Int)).toNat 0).toNat : Int)) (4 : Int)) ∧ ((vb2.length + (letS (ibits .or .i64 (ibits .or .i64 (IntKind.i64.wrap (((vs1.getD ((0 : Int)).toNat 0).toNat : Int) * 2 ^ (min ((16 : Int)).toNat 64))) (IntKind.i64.wrap (((vs1.getD ((1 : Int)).toNat 0).toNat : Int) * 2 ^ (min ((8 : Int)).toNat 64)))) ((vs1.getD ((2 : Int)).toNat 0).toNat : Int)) ((4 : Int)).toNat).length) * 1 ≤ 140737488355328) then (if 0 ≤ (3 : Int) ∧ (3 : Int) ≤ (vs1.length : Int) then (BEncode_1 fuel f1 (vs1.drop ((3 : Int)).toNat) (vb2 ++ (letS (ibits .or .i64 (ibits .or .i64 (IntKind.i64.wrap (((vs1.getD ((0 : Int)).toNat 0).toNat : Int) * 2 ^ (min ((16 : Int)).toNat 64))) (IntKind.i64.wrap (((vs1.getD ((1 : Int)).toNat 0).toNat : Int) * 2 ^ (min ((8 : Int)).toNat 64)))) ((vs1.getD ((2 : Int)).toNat 0).toNat : Int)) ((4 : Int)).toNat))) else none) else none) else (if ((vs1.length : Int) == (1 : Int)) = true then (if (0 ≤ (0 : Int) ∧ (0 : Int) < (vs1.length : Int)) ∧ (0 ≤ (16 : Int)) ∧ (letok (IntKind.i64.wrap (((vs1.getD ((0 : Int)).toNat 0).toNat : Int) * 2 ^ (min ((16 : Int)).toNat 64))) (2 : Int)) ∧ ((vb2.length + (letS (IntKind.i64.wrap (((vs1.getD ((0 : Int)).toNat 0).toNat : Int) * 2 ^ (min ((16 : Int)).toNat 64))) ((2 : Int)).toNat).length) * 1 ≤ 140737488355328) ∧ (((vb2 ++ (letS (IntKind.i64.wrap (((vs1.getD ((0 : Int)).toNat 0).toNat : Int) * 2 ^ (min ((16 : Int)).toNat 64))) ((2 : Int)).toNat)).length + ([61, 61] : List UInt8).length) * 1 ≤ 140737488355328) then (BEncode_2 fuel ((vb2 ++ (letS (IntKind.i64.wrap (((vs1.getD ((0 : Int)).toNat 0).toNat : Int) * 2 ^ (min ((16 : Int)).toNat 64))) ((2 : Int)).toNat)) ++ ([61, 61] : List UInt8))) else none) else (if ((vs1.length : Int) == (2 : Int)) = true then (if (0 ≤ (0 : Int) ∧ (0 : Int) < (vs1.length : Int)) ∧ (0 ≤ (16 : Int)) ∧ (0 ≤ (1 : Int) ∧ (1 : Int) < (vs1.length : Int)) ∧ (0 ≤ (8 : Int)) ∧ (letok (ibits .or .i64 (IntKind.i64.wrap (((vs1.getD ((0 : Int)).toNat 0).toNat : Int) * 2 ^ (min ((16 : Int)).toNat 64))) (IntKind.i64.wrap (((vs1.getD ((1 : Int)).toNat 0).toNat : Int) * 2 ^ (min ((8 : Int)).toNat 64)))) (3 : Int)) ∧ ((vb2.length + (letS (ibits .or .i64 (IntKind.i64.wrap (((vs1.getD ((0 : Int)).toNat 0).toNat : Int) * 2 ^ (min ((16 : Int)).toNat 64))) (IntKind.i64.wrap (((vs1.getD ((1 : Int)).toNat 0).toNat : Int) * 2 ^ (min ((8 : Int)).toNat 64)))) ((3 : Int)).toNat).length) * 1 ≤ 140737488355328) ∧ (((vb2 ++ (letS (ibits .or .i64 (IntKind.i64.wrap (((vs1.getD ((0 : Int)).toNat 0).toNat : Int) * 2 ^ (min ((16 : Int)).toNat 64))) (IntKind.i64.wrap (((vs1.getD ((1 : Int)).toNat 0).toNat : Int) * 2 ^ (min ((8 : Int)).toNat 64)))) ((3 : Int)).toNat)).length + [UInt8.ofNat ((61 : Int)).toNat].length) * 1 ≤ 140737488355328) then (BEncode_2 fuel ((vb2 ++ (letS (ibits .or .i64 (IntKind.i64.wrap (((vs1.getD ((0 : Int)).toNat 0).toNat : Int) * 2 ^ (min ((16 : Int)).toNat 64))) (IntKind.i64.wrap (((vs1.getD ((1 : Int)).toNat 0).toNat : Int) * 2 ^ (min ((8 : Int)).toNat 64)))) ((3 : Int)).toNat)) ++ [UInt8.ofNat ((61 : Int)).toNat])) else none) else (BEncode_2 fuel vb2)))

def FEncode (fuel : Nat) (s : List UInt8) : Option (List UInt8) := BEncode_1 fuel fuel s []

noncomputable def cEncode : Code := bodyOf Tryd.f22

def envEncode : Env := mkEnv [(39, sp_letters)]

theorem envEncode_ok : EnvOk Tryd.prog envEncode := EnvOk_mk ⟨ok_letters.any, trivial⟩

def envrEncode : EnvR := mkEnvR []

theorem envrEncode_ok : EnvROk Tryd.prog envrEncode := EnvROk_mk trivial

theorem TEncode (fuel : Nat) (s res : List UInt8) (h : FEncode fuel s = some res) (C : Ctx) (hC : CtxOk C 55 []) :
    T Tryd.prog C (at_ cEncode []) (mkS [(0, .p (.str s))] []) (Qend Tryd.prog C Tryd.f22.results.toList (.p (.str res))) := by
  have henv := envEncode_ok
  have henvR := envrEncode_ok
  have hmx : Tryd.prog.follows .mixedOrders = true := Checked.mixed Tryd.checked
  unfold FEncode at h
  refine T_seqp (p := []) (by kernel_rfl) ?_
  refine T_reg henv hC [] [(0, .p (.str s))] [] [] (by kernel_rfl) (by kernel_rfl) trivial (fun s1 hs1 => ?_)
  refine (T.weaken ?_ hs1 : T Tryd.prog C (at_ cEncode [1]) _ _)
  refine T_seqp (p := [1]) (by kernel_rfl) ?_
  refine T_reg henv hC [(3, none)] [(0, .p (.str s)), (3, .arr 3)] [(3, .barr 5 false [])] [] (by kernel_rfl) (by kernel_rfl) trivial (fun s1 hs1 => ?_)
  refine (T.weaken ?_ hs1 : T Tryd.prog C (at_ cEncode [1, 1]) _ _)
  refine T_seqp (p := [1, 1]) (by kernel_rfl) ?_
  refine T_blockp (p := [1, 1, 0]) 0 (by kernel_rfl) ?_
  refine T.weaken ?_ (Sub_view (l := [(0, .p (.str s)), (3, .arr 3)]) (o := [(3, .barr 5 false [])]) hC [(3, some 3)] (by kernel_rfl) (by kernel_rfl) (by kernel_rfl))
  refine T_loopp (p := [1, 1, 0, 0]) (by kernel_rfl) (fun f1 s2 => ∃ (vs1 : List UInt8) (vb2 : List UInt8), s2 = mkS [(0, .p (.str vs1)), (3, .arr 3)] [(3, .barr 5 false vb2)] ∧ BEncode_1 fuel f1 vs1 vb2 = some res) ?_ fuel ⟨s, [], rfl, h⟩
  rintro f1 s2 ⟨vs1, vb2, rfl, h⟩
  cases f1 with
  | zero => cases h
  | succ f1 =>
    rw [BEncode_1] at h
    refine T_seqp (p := [1, 1, 0, 0, 0]) (by kernel_rfl) ?_
    refine T_seqp (p := [1, 1, 0, 0, 0, 0]) (by kernel_rfl) ?_
    refine T_reg henv hC [(3, some 3)] [(0, .p (.str vs1)), (3, .arr 3), (6, .p (.bool (decide ((vs1.length : Int) ≥ (3 : Int)))))] [(3, .barr 5 false vb2)] [] (by kernel_rfl) (by kernel_rfl) trivial (fun s1 hs1 => ?_)
    refine (T.weaken ?_ hs1 : T Tryd.prog C (at_ cEncode [1, 1, 0, 0, 0, 0, 1]) _ _)
    refine T_condp (p := [1, 1, 0, 0, 0, 0, 1]) (by kernel_rfl) (decide ((vs1.length : Int) ≥ (3 : Int))) (by kernel_rfl) (fun hb => ?_) (fun hb => ?_)
    · have h := ite_t h hb
      refine T_skipp (p := [1, 1, 0, 0, 0, 0, 1, 0]) (by kernel_rfl) ?_
      refine (T.weaken ?_ (Sub.refl _) : T Tryd.prog C (at_ cEncode [1, 1, 0, 0, 0, 1]) _ _)
      refine T_blockp (p := [1, 1, 0, 0, 0, 1]) 1 (by kernel_rfl) ?_
      refine T_seqp (p := [1, 1, 0, 0, 0, 1, 0]) (by kernel_rfl) ?_
      obtain ⟨hob, h⟩ := ite_get h
      refine T_regdW henv henvR hmx hC [] [(3, some 22)] [(0, .p (.str vs1)), (3, .arr 3)] [(3, .barr 5 false (vb2 ++ (letS (ibits .or .i64 (ibits .or .i64 (IntKind.i64.wrap (((vs1.getD ((0 : Int)).toNat 0).toNat : Int) * 2 ^ (min ((16 : Int)).toNat 64))) (IntKind.i64.wrap (((vs1.getD ((1 : Int)).toNat 0).toNat : Int) * 2 ^ (min ((8 : Int)).toNat 64)))) ((vs1.getD ((2 : Int)).toNat 0).toNat : Int)) ((4 : Int)).toNat)))] [0 ≤ (0 : Int) ∧ (0 : Int) < (vs1.length : Int), 0 ≤ (16 : Int), 0 ≤ (1 : Int) ∧ (1 : Int) < (vs1.length : Int), 0 ≤ (8 : Int), 0 ≤ (2 : Int) ∧ (2 : Int) < (vs1.length : Int), letok (ibits .or .i64 (ibits .or .i64 (IntKind.i64.wrap (((vs1.getD ((0 : Int)).toNat 0).toNat : Int) * 2 ^ (min ((16 : Int)).toNat 64))) (IntKind.i64.wrap (((vs1.getD ((1 : Int)).toNat 0).toNat : Int) * 2 ^ (min ((8 : Int)).toNat 64)))) ((vs1.getD ((2 : Int)).toNat 0).toNat : Int)) (4 : Int), (vb2.length + (letS (ibits .or .i64 (ibits .or .i64 (IntKind.i64.wrap (((vs1.getD ((0 : Int)).toNat 0).toNat : Int) * 2 ^ (min ((16 : Int)).toNat 64))) (IntKind.i64.wrap (((vs1.getD ((1 : Int)).toNat 0).toNat : Int) * 2 ^ (min ((8 : Int)).toNat 64)))) ((vs1.getD ((2 : Int)).toNat 0).toNat : Int)) ((4 : Int)).toNat).length) * 1 ≤ 140737488355328] (by kernel_rfl) (by kernel_rfl) (by kernel_rfl) ⟨hob.1, hob.2.1, hob.2.2.1, hob.2.2.2.1, hob.2.2.2.2.1, hob.2.2.2.2.2.1, hob.2.2.2.2.2.2, trivial⟩ (fun s1 hs1 => ?_)
      refine (T.weaken ?_ hs1 : T Tryd.prog C (at_ cEncode [1, 1, 0, 0, 0, 1, 0, 1]) _ _)
      obtain ⟨hob, h⟩ := ite_get h
      refine T_reg henv hC [(3, some 3)] [(0, .p (.str (vs1.drop ((3 : Int)).toNat))), (3, .arr 3)] [(3, .barr 5 false (vb2 ++ (letS (ibits .or .i64 (ibits .or .i64 (IntKind.i64.wrap (((vs1.getD ((0 : Int)).toNat 0).toNat : Int) * 2 ^ (min ((16 : Int)).toNat 64))) (IntKind.i64.wrap (((vs1.getD ((1 : Int)).toNat 0).toNat : Int) * 2 ^ (min ((8 : Int)).toNat 64)))) ((vs1.getD ((2 : Int)).toNat 0).toNat : Int)) ((4 : Int)).toNat)))] [0 ≤ (3 : Int) ∧ (3 : Int) ≤ (vs1.length : Int)] (by kernel_rfl) (by kernel_rfl) ⟨hob, trivial⟩ (fun s1 hs1 => ?_)
      exact ⟨f1, _, Nat.lt_succ_self f1, ⟨vs1.drop ((3 : Int)).toNat, vb2 ++ (letS (ibits .or .i64 (ibits .or .i64 (IntKind.i64.wrap (((vs1.getD ((0 : Int)).toNat 0).toNat : Int) * 2 ^ (min ((16 : Int)).toNat 64))) (IntKind.i64.wrap (((vs1.getD ((1 : Int)).toNat 0).toNat : Int) * 2 ^ (min ((8 : Int)).toNat 64)))) ((vs1.getD ((2 : Int)).toNat 0).toNat : Int)) ((4 : Int)).toNat), rfl, h⟩, Sub.trans hs1 (Sub_view hC [(3, some 3)] (by kernel_rfl) (by kernel_rfl) (by kernel_rfl))⟩
    · have h := ite_f h hb
      refine T_exitp (p := [1, 1, 0, 0, 0, 0, 1, 1]) 0 (by kernel_rfl) ?_
      refine then_exit ?_
      refine then_exit ?_
      refine inblock_hit ?_
      refine (T.weaken ?_ (Sub.refl _) : T Tryd.prog C (at_ cEncode [1, 1, 1]) _ _)
      refine T_join (p := [1, 1, 1]) (by kernel_rfl) (fun s2 => ∃ (vb3 : List UInt8), BEncode_2 fuel vb3 = some res ∧ Sub C s2 (mkS [(3, .arr 3)] [(3, .barr 5 false vb3)])) ?_ ?_
      · refine T_seqp (p := [1, 1, 1, 0]) (by kernel_rfl) ?_
        refine T_reg henv hC [(3, some 3)] [(0, .p (.str vs1)), (3, .arr 3), (26, .p (.int .i64 (vs1.length : Int)))] [(3, .barr 5 false vb2)] [] (by kernel_rfl) (by kernel_rfl) trivial (fun s1 hs1 => ?_)
        refine (T.weaken ?_ hs1 : T Tryd.prog C (at_ cEncode [1, 1, 1, 0, 1]) _ _)
        refine T_blockp (p := [1, 1, 1, 0, 1]) 2 (by kernel_rfl) ?_
        refine T_seqp (p := [1, 1, 1, 0, 1, 0]) (by kernel_rfl) ?_
        refine T_reg henv hC [(3, some 3)] [(0, .p (.str vs1)), (3, .arr 3), (26, .p (.int .i64 (vs1.length : Int))), (27, .p (.bool ((vs1.length : Int) == (1 : Int))))] [(3, .barr 5 false vb2)] [] (by kernel_rfl) (by kernel_rfl) trivial (fun s1 hs1 => ?_)
        refine (T.weaken ?_ hs1 : T Tryd.prog C (at_ cEncode [1, 1, 1, 0, 1, 0, 1]) _ _)
        refine T_condp (p := [1, 1, 1, 0, 1, 0, 1]) (by kernel_rfl) ((vs1.length : Int) == (1 : Int)) (by kernel_rfl) (fun hb => ?_) (fun hb => ?_)
        · have h := ite_t h hb
          obtain ⟨hob, h⟩ := ite_get h
          refine T_reg henv hC [(3, some 36)] [(3, .arr 3)] [(3, .barr 5 false ((vb2 ++ (letS (IntKind.i64.wrap (((vs1.getD ((0 : Int)).toNat 0).toNat : Int) * 2 ^ (min ((16 : Int)).toNat 64))) ((2 : Int)).toNat)) ++ ([61, 61] : List UInt8)))] [0 ≤ (0 : Int) ∧ (0 : Int) < (vs1.length : Int), 0 ≤ (16 : Int), letok (IntKind.i64.wrap (((vs1.getD ((0 : Int)).toNat 0).toNat : Int) * 2 ^ (min ((16 : Int)).toNat 64))) (2 : Int), (vb2.length + (letS (IntKind.i64.wrap (((vs1.getD ((0 : Int)).toNat 0).toNat : Int) * 2 ^ (min ((16 : Int)).toNat 64))) ((2 : Int)).toNat).length) * 1 ≤ 140737488355328, ((vb2 ++ (letS (IntKind.i64.wrap (((vs1.getD ((0 : Int)).toNat 0).toNat : Int) * 2 ^ (min ((16 : Int)).toNat 64))) ((2 : Int)).toNat)).length + ([61, 61] : List UInt8).length) * 1 ≤ 140737488355328] (by kernel_rfl) (by kernel_rfl) ⟨hob.1, hob.2.1, hob.2.2.1, hob.2.2.2.1, hob.2.2.2.2, trivial⟩ (fun s1 hs1 => ?_)
          exact ⟨(vb2 ++ (letS (IntKind.i64.wrap (((vs1.getD ((0 : Int)).toNat 0).toNat : Int) * 2 ^ (min ((16 : Int)).toNat 64))) ((2 : Int)).toNat)) ++ ([61, 61] : List UInt8), h, Sub.trans hs1 (Sub_view hC [(3, some 3)] (by kernel_rfl) (by kernel_rfl) (by kernel_rfl))⟩
        · have h := ite_f h hb
          refine T_seqp (p := [1, 1, 1, 0, 1, 0, 1, 1]) (by kernel_rfl) ?_
          refine T_reg henv hC [(3, some 3)] [(0, .p (.str vs1)), (3, .arr 3), (37, .p (.bool ((vs1.length : Int) == (2 : Int))))] [(3, .barr 5 false vb2)] [] (by kernel_rfl) (by kernel_rfl) trivial (fun s1 hs1 => ?_)
          refine (T.weaken ?_ hs1 : T Tryd.prog C (at_ cEncode [1, 1, 1, 0, 1, 0, 1, 1, 1]) _ _)
          refine T_condp (p := [1, 1, 1, 0, 1, 0, 1, 1, 1]) (by kernel_rfl) ((vs1.length : Int) == (2 : Int)) (by kernel_rfl) (fun hb => ?_) (fun hb => ?_)
          · have h := ite_t h hb
            obtain ⟨hob, h⟩ := ite_get h
            refine T_regdW henv henvR hmx hC [] [(3, some 52)] [(3, .arr 3)] [(3, .barr 5 false ((vb2 ++ (letS (ibits .or .i64 (IntKind.i64.wrap (((vs1.getD ((0 : Int)).toNat 0).toNat : Int) * 2 ^ (min ((16 : Int)).toNat 64))) (IntKind.i64.wrap (((vs1.getD ((1 : Int)).toNat 0).toNat : Int) * 2 ^ (min ((8 : Int)).toNat 64)))) ((3 : Int)).toNat)) ++ [UInt8.ofNat ((61 : Int)).toNat]))] [0 ≤ (0 : Int) ∧ (0 : Int) < (vs1.length : Int), 0 ≤ (16 : Int), 0 ≤ (1 : Int) ∧ (1 : Int) < (vs1.length : Int), 0 ≤ (8 : Int), letok (ibits .or .i64 (IntKind.i64.wrap (((vs1.getD ((0 : Int)).toNat 0).toNat : Int) * 2 ^ (min ((16 : Int)).toNat 64))) (IntKind.i64.wrap (((vs1.getD ((1 : Int)).toNat 0).toNat : Int) * 2 ^ (min ((8 : Int)).toNat 64)))) (3 : Int), (vb2.length + (letS (ibits .or .i64 (IntKind.i64.wrap (((vs1.getD ((0 : Int)).toNat 0).toNat : Int) * 2 ^ (min ((16 : Int)).toNat 64))) (IntKind.i64.wrap (((vs1.getD ((1 : Int)).toNat 0).toNat : Int) * 2 ^ (min ((8 : Int)).toNat 64)))) ((3 : Int)).toNat).length) * 1 ≤ 140737488355328, ((vb2 ++ (letS (ibits .or .i64 (IntKind.i64.wrap (((vs1.getD ((0 : Int)).toNat 0).toNat : Int) * 2 ^ (min ((16 : Int)).toNat 64))) (IntKind.i64.wrap (((vs1.getD ((1 : Int)).toNat 0).toNat : Int) * 2 ^ (min ((8 : Int)).toNat 64)))) ((3 : Int)).toNat)).length + [UInt8.ofNat ((61 : Int)).toNat].length) * 1 ≤ 140737488355328] (by kernel_rfl) (by kernel_rfl) (by kernel_rfl) ⟨hob.1, hob.2.1, hob.2.2.1, hob.2.2.2.1, hob.2.2.2.2.1, hob.2.2.2.2.2.1, hob.2.2.2.2.2.2, trivial⟩ (fun s1 hs1 => ?_)
            exact ⟨(vb2 ++ (letS (ibits .or .i64 (IntKind.i64.wrap (((vs1.getD ((0 : Int)).toNat 0).toNat : Int) * 2 ^ (min ((16 : Int)).toNat 64))) (IntKind.i64.wrap (((vs1.getD ((1 : Int)).toNat 0).toNat : Int) * 2 ^ (min ((8 : Int)).toNat 64)))) ((3 : Int)).toNat)) ++ [UInt8.ofNat ((61 : Int)).toNat], h, Sub.trans hs1 (Sub_view hC [(3, some 3)] (by kernel_rfl) (by kernel_rfl) (by kernel_rfl))⟩
          · have h := ite_f h hb
            refine T_skipp (p := [1, 1, 1, 0, 1, 0, 1, 1, 1, 1]) (by kernel_rfl) ?_
            exact ⟨vb2, h, Sub.trans (Sub.refl _) (Sub_view hC [(3, some 3)] (by kernel_rfl) (by kernel_rfl) (by kernel_rfl))⟩
      · rintro s2 ⟨vb3, h, hs2⟩
        unfold BEncode_2 at h
        refine (T.weaken ?_ hs2 : T Tryd.prog C (at_ cEncode [1, 1, 1, 1]) _ _)
        refine T_seqp (p := [1, 1, 1, 1]) (by kernel_rfl) ?_
        refine T_reg henv hC [] [(2, .p (.str vb3))] [] [] (by kernel_rfl) (by kernel_rfl) trivial (fun s1 hs1 => ?_)
        refine (T.weaken ?_ hs1 : T Tryd.prog C (at_ cEncode [1, 1, 1, 1, 1]) _ _)
        refine T_retp (p := [1, 1, 1, 1, 1]) (by kernel_rfl) ?_
        have h := Option.some.inj h; subst h
        exact ⟨mkS [(2, .p (.str vb3))] [], (Sub.refl _), by kernel_rfl⟩

theorem fn_Encode (fuel : Nat) (s res : List UInt8) (h : (∃ M vs, ARels γ0 M [.p (.str s)] vs) → FEncode fuel s = some res) : FnP Tryd.prog 22 [.p (.str s)] (.p (.str res)) :=
  FnP_lift (fn := Tryd.f22) (by kernel_rfl) (by kernel_rfl) fun M vs hvs C hC0 => have hC : CtxOk C 55 [] := ⟨hC0.nt.trans (by kernel_rfl), hC0.fx⟩; T.weaken (TEncode fuel s res (h ⟨M, vs, hvs⟩) C hC) (sinit_sub hC (by kernel_rfl) (by kernel_rfl))
/-! What base64.Encode and the document's letters compute. -/

def num3 (a b c : UInt8) : Nat := a.toNat * 65536 + b.toNat * 256 + c.toNat
def lets (x n : Nat) : List UInt8 := (List.range' 0 n).map fun i => letter (x / 2 ^ (18 - 6 * i) % 64)
theorem lets_eq (x n : Nat) : letS (x : Int) n = lets x n := rfl
theorem lets_len (x n : Nat) : (lets x n).length = n := by simp [lets]

def encB : List UInt8 → List UInt8
  | a :: b :: c :: r => lets (num3 a b c) 4 ++ encB r
  | [a, b] => lets (num3 a b 0) 3 ++ [61]
  | [a] => lets (num3 a 0 0) 2 ++ [61, 61]
  | [] => []

theorem bits3 (a b c : UInt8) : ibits .or .i64 (ibits .or .i64 (IntKind.i64.wrap ((a.toNat : Int) * 2 ^ (min ((16 : Int)).toNat 64))) (IntKind.i64.wrap ((b.toNat : Int) * 2 ^ (min ((8 : Int)).toNat 64)))) (c.toNat : Int) = (num3 a b c : Nat) := by
  have ha := a.toNat_lt
  have hb := b.toNat_lt
  have hc := c.toNat_lt
  have e1 : (2 : Int) ^ (min ((16 : Int)).toNat 64) = 65536 := rfl
  have e2 : (2 : Int) ^ (min ((8 : Int)).toNat 64) = 256 := rfl
  rw [e1, e2, i64_small (by omega) (by omega), i64_small (by omega) (by omega)]
  rw [show (a.toNat : Int) * 65536 = ((a.toNat * 65536 : Nat) : Int) by simp, show (b.toNat : Int) * 256 = ((b.toNat * 256 : Nat) : Int) by simp]
  have o1 : (a.toNat * 65536) ||| (b.toNat * 256) = a.toNat * 65536 + b.toNat * 256 := or_add a.toNat (b.toNat * 256) 16 (by omega)
  have o2 : (a.toNat * 65536 + b.toNat * 256) ||| c.toNat = num3 a b c := by
    have := or_add (a.toNat * 256 + b.toNat) c.toNat 8 (by omega)
    unfold num3
    rw [show a.toNat * 65536 + b.toNat * 256 = (a.toNat * 256 + b.toNat) * 2 ^ 8 by omega, this]
  rw [i64_or (by omega) (by omega), o1, i64_or (by omega) (by omega), o2]
theorem bits2 (a b : UInt8) : ibits .or .i64 (IntKind.i64.wrap ((a.toNat : Int) * 2 ^ (min ((16 : Int)).toNat 64))) (IntKind.i64.wrap ((b.toNat : Int) * 2 ^ (min ((8 : Int)).toNat 64))) = (num3 a b 0 : Nat) := by
  have ha := a.toNat_lt
  have hb := b.toNat_lt
  have e1 : (2 : Int) ^ (min ((16 : Int)).toNat 64) = 65536 := rfl
  have e2 : (2 : Int) ^ (min ((8 : Int)).toNat 64) = 256 := rfl
  rw [e1, e2, i64_small (by omega) (by omega), i64_small (by omega) (by omega)]
  rw [show (a.toNat : Int) * 65536 = ((a.toNat * 65536 : Nat) : Int) by simp, show (b.toNat : Int) * 256 = ((b.toNat * 256 : Nat) : Int) by simp]
  have o1 : (a.toNat * 65536) ||| (b.toNat * 256) = a.toNat * 65536 + b.toNat * 256 := or_add a.toNat (b.toNat * 256) 16 (by omega)
  rw [i64_or (by omega) (by omega), o1]
  have z : (0 : UInt8).toNat = 0 := by decide
  unfold num3
  rw [z, Nat.add_zero]
theorem bits1 (a : UInt8) : IntKind.i64.wrap ((a.toNat : Int) * 2 ^ (min ((16 : Int)).toNat 64)) = (num3 a 0 0 : Nat) := by
  have ha := a.toNat_lt
  have e1 : (2 : Int) ^ (min ((16 : Int)).toNat 64) = 65536 := rfl
  rw [e1, i64_small (by omega) (by omega)]
  have z : (0 : UInt8).toNat = 0 := by decide
  unfold num3
  rw [z]
  omega
theorem num3_lt (a b c : UInt8) : num3 a b c < 16777216 := by
  have ha := a.toNat_lt
  have hb := b.toNat_lt
  have hc := c.toNat_lt
  unfold num3; omega
theorem BEncode_eq (fuel : Nat) : ∀ (f : Nat) (s b : List UInt8), s.length < f → b.length + 2 * s.length ≤ 100000000 → BEncode_1 fuel f s b = some (b ++ encB s) := by
  intro f
  induction f with
  | zero => intro s b h; omega
  | succ f ih =>
    intro s b h h2
    match s, h, h2 with
    | a :: c :: d :: r, h, h2 =>
      simp only [List.length_cons] at h h2
      have l := num3_lt a c d
      rw [BEncode_1, if_pos (by simp; omega)]
      have g0 : (a :: c :: d :: r).getD ((0 : Int)).toNat 0 = a := rfl
      have g1 : (a :: c :: d :: r).getD ((1 : Int)).toNat 0 = c := rfl
      have g2 : (a :: c :: d :: r).getD ((2 : Int)).toNat 0 = d := rfl
      have g3 : (a :: c :: d :: r).drop ((3 : Int)).toNat = r := rfl
      have g4 : ((4 : Int)).toNat = 4 := rfl
      rw [g0, g1, g2, bits3, g3, g4, lets_eq]
      rw [if_pos ⟨by simp; omega, by omega, by simp; omega, by omega, by simp; omega, ⟨by omega, by omega, by omega, by omega⟩, by rw [lets_len]; omega⟩, if_pos (by simp; omega)]
      rw [ih r _ (by omega) (by simp [lets_len]; omega), encB]
      simp
    | [a, c], h, h2 =>
      simp only [List.length_cons, List.length_nil] at h h2
      have l := num3_lt a c 0
      rw [BEncode_1, if_neg (by simp), if_neg (by simp), if_pos (by simp)]
      have g0 : [a, c].getD ((0 : Int)).toNat 0 = a := rfl
      have g1 : [a, c].getD ((1 : Int)).toNat 0 = c := rfl
      have g4 : ((3 : Int)).toNat = 3 := rfl
      rw [g0, g1, bits2, g4, lets_eq]
      rw [if_pos ⟨by simp, by omega, by simp, by omega, ⟨by omega, by omega, by omega, by omega⟩, by rw [lets_len]; omega, by simp [lets_len]; omega⟩]
      unfold BEncode_2
      rw [encB]; simp
    | [a], h, h2 =>
      simp only [List.length_cons, List.length_nil] at h h2
      have l := num3_lt a 0 0
      rw [BEncode_1, if_neg (by simp), if_pos (by simp)]
      have g0 : [a].getD ((0 : Int)).toNat 0 = a := rfl
      have g4 : ((2 : Int)).toNat = 2 := rfl
      rw [g0, bits1, g4, lets_eq]
      rw [if_pos ⟨by simp, by omega, ⟨by omega, by omega, by omega, by omega⟩, by rw [lets_len]; omega, by simp [lets_len]; omega⟩]
      unfold BEncode_2
      rw [encB]; simp
    | [], h, h2 =>
      rw [BEncode_1, if_neg (by simp), if_neg (by simp), if_neg (by simp), encB]
      unfold BEncode_2
      simp
theorem Encode_eq (s : List UInt8) (hs : s.length ≤ 1000000) : FEncode 1000001 s = some (encB s) := by
  have := BEncode_eq 1000001 1000001 s [] (by omega) (by simp; omega)
  simpa [FEncode] using this
def sp_Encode : List AV → Option (AV × Option Prop) := spStr encB
theorem ok_Encode : SpecOk Tryd.prog 22 sp_Encode := spStr_ok (by kernel_rfl) fun s hs => fn_Encode 1000001 s _ fun _ => Encode_eq s hs
end Go.Proofs.YthfgklcdkehgjaaDoor
