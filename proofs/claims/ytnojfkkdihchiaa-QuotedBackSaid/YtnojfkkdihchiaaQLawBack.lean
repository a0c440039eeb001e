/-
  A lifted function, or a fact about one.
-/
import Derived.Test.YtnojfkkdihchiaaRows
import Derived.Test.YtnojfkkdihchiaaAmDrawRR
import Derived.Test.YtnojfkkdihchiaaQSpec3
namespace Go.Proofs.Ytnojfkkdihchiaa
open Go Go.Am
def BBack_2 (fuel : Nat) (k1 : List UInt8 → List UInt8 → Int → Int → Option Bool) (s : List UInt8) (vs1 : List UInt8) (vi4 : Int) (vi3 : Int) : Option Bool := if i64ok (vi3 + (1 : Int)) then (k1 s vs1 vi4 (vi3 + (1 : Int))) else none

def BBack_3 (fuel : Nat) (k1 : List UInt8 → List UInt8 → Int → Int → Option Bool) (s : List UInt8) (vs1 : List UInt8) (vi5 : Int) (vi3 : Int) (vi6 : Int) : Option Bool := if (((decide (vi5 > (76 : Int))) || (decide (vi6 > (126 : Int)))) || ((decide (vi6 < (32 : Int))) && (vi6 != (13 : Int)))) = true then (some false) else (BBack_2 fuel k1 s vs1 vi5 vi3)

def BBack_1 (fuel : Nat)  : Nat → List UInt8 → List UInt8 → Int → Int → Option Bool
  | 0, _, _, _, _ => none
  | f + 1, s, vs1, vi2, vi3 => if (decide (vi3 < (vs1.length : Int))) = true then (if 0 ≤ vi3 ∧ vi3 < (vs1.length : Int) then (if (((vs1.getD (vi3).toNat 0).toNat : Int) == (10 : Int)) = true then (BBack_2 fuel (BBack_1 fuel f) s vs1 (0 : Int) vi3) else (if (((vs1.getD (vi3).toNat 0).toNat : Int) != (13 : Int)) = true then (if i64ok (vi2 + (1 : Int)) then (BBack_3 fuel (BBack_1 fuel f) s vs1 (vi2 + (1 : Int)) vi3 ((vs1.getD (vi3).toNat 0).toNat : Int)) else none) else (BBack_3 fuel (BBack_1 fuel f) s vs1 vi2 vi3 ((vs1.getD (vi3).toNat 0).toNat : Int)))) else none) else (if vs1.length ≤ 1000000 then (some (((decS vs1) == s) && true)) else none)

def FBack (fuel : Nat) (s : List UInt8) : Option Bool := if (decide ((s.length : Int) > (3000 : Int))) = true then (some true) else (if s.length ≤ 1000000 then (BBack_1 fuel fuel s (encL 0 s) (0 : Int) (0 : Int)) else none)

noncomputable def cBack : Code := bodyOf Try.f4

def envBack : Env := mkEnv [(8, sp_Encode), (10, sp_Decode), (12, sp_awake)]

theorem envBack_ok : EnvOk Try.prog envBack := EnvOk_mk ⟨ok_Encode, ok_Decode, ok_awake, trivial⟩

theorem TBack (fuel : Nat) (s : List UInt8) (res : Bool) (h : FBack fuel s = some res) (C : Ctx) (hC : CtxOk C 49 []) :
    T Try.prog C (at_ cBack []) (mkS [(0, .p (.str s))] []) (Qend Try.prog C Try.f4.results.toList (.p (.bool res))) := by
  have henv := envBack_ok
  unfold FBack at h
  refine T_seqp (p := []) (by kernel_rfl) ?_
  refine T_reg henv hC [] [(0, .p (.str s))] [] [] (by kernel_rfl) (by kernel_rfl) trivial (fun s1 hs1 => ?_)
  refine (T.weaken ?_ hs1 : T Try.prog C (at_ cBack [1]) _ _)
  refine T_seqp (p := [1]) (by kernel_rfl) ?_
  refine T_seqp (p := [1, 0]) (by kernel_rfl) ?_
  refine T_reg henv hC [] [(0, .p (.str s)), (9, .p (.bool (decide ((s.length : Int) > (3000 : Int)))))] [] [] (by kernel_rfl) (by kernel_rfl) trivial (fun s1 hs1 => ?_)
  refine (T.weaken ?_ hs1 : T Try.prog C (at_ cBack [1, 0, 1]) _ _)
  refine T_condp (p := [1, 0, 1]) (by kernel_rfl) (decide ((s.length : Int) > (3000 : Int))) (by kernel_rfl) (fun hb => ?_) (fun hb => ?_)
  · have h := ite_t h hb
    refine T_seqp (p := [1, 0, 1, 0]) (by kernel_rfl) ?_
    refine T_reg henv hC [] [(2, .p (.bool true))] [] [] (by kernel_rfl) (by kernel_rfl) trivial (fun s1 hs1 => ?_)
    refine (T.weaken ?_ hs1 : T Try.prog C (at_ cBack [1, 0, 1, 0, 1]) _ _)
    refine T_retp (p := [1, 0, 1, 0, 1]) (by kernel_rfl) ?_
    refine then_ret ?_
    have h := Option.some.inj h; subst h
    exact ⟨mkS [(2, .p (.bool true))] [], (Sub.refl _), by kernel_rfl⟩
  · have h := ite_f h hb
    refine T_skipp (p := [1, 0, 1, 1]) (by kernel_rfl) ?_
    refine (T.weaken ?_ (Sub.refl _) : T Try.prog C (at_ cBack [1, 1]) _ _)
    refine T_seqp (p := [1, 1]) (by kernel_rfl) ?_
    obtain ⟨hob, h⟩ := ite_get h
    refine T_reg henv hC [] [(0, .p (.str s)), (3, .p (.str (encL 0 s)))] [] [s.length ≤ 1000000] (by kernel_rfl) (by kernel_rfl) ⟨hob, trivial⟩ (fun s1 hs1 => ?_)
    refine (T.weaken ?_ hs1 : T Try.prog C (at_ cBack [1, 1, 1]) _ _)
    refine T_seqp (p := [1, 1, 1]) (by kernel_rfl) ?_
    refine T_reg henv hC [] [(0, .p (.str s)), (3, .p (.str (encL 0 s))), (4, .p (.int .i64 (0 : Int)))] [] [] (by kernel_rfl) (by kernel_rfl) trivial (fun s1 hs1 => ?_)
    refine (T.weaken ?_ hs1 : T Try.prog C (at_ cBack [1, 1, 1, 1]) _ _)
    refine T_seqp (p := [1, 1, 1, 1]) (by kernel_rfl) ?_
    refine T_seqp (p := [1, 1, 1, 1, 0]) (by kernel_rfl) ?_
    refine T_reg henv hC [] [(0, .p (.str s)), (3, .p (.str (encL 0 s))), (4, .p (.int .i64 (0 : Int))), (5, .p (.int .i64 (0 : Int)))] [] [] (by kernel_rfl) (by kernel_rfl) trivial (fun s1 hs1 => ?_)
    refine (T.weaken ?_ hs1 : T Try.prog C (at_ cBack [1, 1, 1, 1, 0, 1]) _ _)
    refine T_blockp (p := [1, 1, 1, 1, 0, 1]) 0 (by kernel_rfl) ?_
    refine T.weaken ?_ (Sub_view (l := [(0, .p (.str s)), (3, .p (.str (encL 0 s))), (4, .p (.int .i64 (0 : Int))), (5, .p (.int .i64 (0 : Int)))]) (o := []) hC [] (by kernel_rfl) (by kernel_rfl) (by kernel_rfl))
    refine T_loopp (p := [1, 1, 1, 1, 0, 1, 0]) (by kernel_rfl) (fun f s2 => ∃ (s : List UInt8) (vs1 : List UInt8) (vi2 : Int) (vi3 : Int), s2 = mkS [(0, .p (.str s)), (3, .p (.str vs1)), (4, .p (.int .i64 vi2)), (5, .p (.int .i64 vi3))] [] ∧ BBack_1 fuel f s vs1 vi2 vi3 = some res) ?_ fuel ⟨s, encL 0 s, (0 : Int), (0 : Int), rfl, h⟩
    rintro f s2 ⟨s, vs1, vi2, vi3, rfl, h⟩
    cases f with
    | zero => cases h
    | succ f =>
      rw [BBack_1] at h
      refine T_seqp (p := [1, 1, 1, 1, 0, 1, 0, 0]) (by kernel_rfl) ?_
      refine T_seqp (p := [1, 1, 1, 1, 0, 1, 0, 0, 0]) (by kernel_rfl) ?_
      refine T_reg henv hC [] [(0, .p (.str s)), (3, .p (.str vs1)), (4, .p (.int .i64 vi2)), (5, .p (.int .i64 vi3)), (16, .p (.bool (decide (vi3 < (vs1.length : Int)))))] [] [] (by kernel_rfl) (by kernel_rfl) trivial (fun s1 hs1 => ?_)
      refine (T.weaken ?_ hs1 : T Try.prog C (at_ cBack [1, 1, 1, 1, 0, 1, 0, 0, 0, 1]) _ _)
      refine T_condp (p := [1, 1, 1, 1, 0, 1, 0, 0, 0, 1]) (by kernel_rfl) (decide (vi3 < (vs1.length : Int))) (by kernel_rfl) (fun hb => ?_) (fun hb => ?_)
      · have h := ite_t h hb
        refine T_skipp (p := [1, 1, 1, 1, 0, 1, 0, 0, 0, 1, 0]) (by kernel_rfl) ?_
        refine (T.weaken ?_ (Sub.refl _) : T Try.prog C (at_ cBack [1, 1, 1, 1, 0, 1, 0, 0, 1]) _ _)
        refine T_join (p := [1, 1, 1, 1, 0, 1, 0, 0, 1]) (by kernel_rfl) (fun s2 => ∃ (s : List UInt8) (vs1 : List UInt8) (vi4 : Int) (vi3 : Int), BBack_2 fuel (BBack_1 fuel f) s vs1 vi4 vi3 = some res ∧ Sub C s2 (mkS [(0, .p (.str s)), (3, .p (.str vs1)), (4, .p (.int .i64 vi4)), (5, .p (.int .i64 vi3))] [])) ?_ ?_
        · refine T_blockp (p := [1, 1, 1, 1, 0, 1, 0, 0, 1, 0]) 1 (by kernel_rfl) ?_
          refine T_seqp (p := [1, 1, 1, 1, 0, 1, 0, 0, 1, 0, 0]) (by kernel_rfl) ?_
          obtain ⟨hob, h⟩ := ite_get h
          refine T_reg henv hC [] [(0, .p (.str s)), (3, .p (.str vs1)), (4, .p (.int .i64 vi2)), (5, .p (.int .i64 vi3)), (6, .p (.int .u8 ((vs1.getD (vi3).toNat 0).toNat : Int)))] [] [0 ≤ vi3 ∧ vi3 < (vs1.length : Int)] (by kernel_rfl) (by kernel_rfl) ⟨hob, trivial⟩ (fun s1 hs1 => ?_)
          refine (T.weaken ?_ hs1 : T Try.prog C (at_ cBack [1, 1, 1, 1, 0, 1, 0, 0, 1, 0, 0, 1]) _ _)
          refine T_seqp (p := [1, 1, 1, 1, 0, 1, 0, 0, 1, 0, 0, 1]) (by kernel_rfl) ?_
          refine T_seqp (p := [1, 1, 1, 1, 0, 1, 0, 0, 1, 0, 0, 1, 0]) (by kernel_rfl) ?_
          refine T_reg henv hC [] [(0, .p (.str s)), (3, .p (.str vs1)), (4, .p (.int .i64 vi2)), (5, .p (.int .i64 vi3)), (6, .p (.int .u8 ((vs1.getD (vi3).toNat 0).toNat : Int))), (23, .p (.bool (((vs1.getD (vi3).toNat 0).toNat : Int) == (10 : Int))))] [] [] (by kernel_rfl) (by kernel_rfl) trivial (fun s1 hs1 => ?_)
          refine (T.weaken ?_ hs1 : T Try.prog C (at_ cBack [1, 1, 1, 1, 0, 1, 0, 0, 1, 0, 0, 1, 0, 1]) _ _)
          refine T_condp (p := [1, 1, 1, 1, 0, 1, 0, 0, 1, 0, 0, 1, 0, 1]) (by kernel_rfl) (((vs1.getD (vi3).toNat 0).toNat : Int) == (10 : Int)) (by kernel_rfl) (fun hb => ?_) (fun hb => ?_)
          · have h := ite_t h hb
            refine T_seqp (p := [1, 1, 1, 1, 0, 1, 0, 0, 1, 0, 0, 1, 0, 1, 0]) (by kernel_rfl) ?_
            refine T_reg henv hC [] [(0, .p (.str s)), (3, .p (.str vs1)), (4, .p (.int .i64 (0 : Int))), (5, .p (.int .i64 vi3))] [] [] (by kernel_rfl) (by kernel_rfl) trivial (fun s1 hs1 => ?_)
            refine (T.weaken ?_ hs1 : T Try.prog C (at_ cBack [1, 1, 1, 1, 0, 1, 0, 0, 1, 0, 0, 1, 0, 1, 0, 1]) _ _)
            refine T_exitp (p := [1, 1, 1, 1, 0, 1, 0, 0, 1, 0, 0, 1, 0, 1, 0, 1]) 1 (by kernel_rfl) ?_
            refine then_exit ?_
            refine inblock_hit ?_
            exact ⟨s, vs1, (0 : Int), vi3, h, Sub.trans (Sub.refl _) (Sub_view hC [] (by kernel_rfl) (by kernel_rfl) (by kernel_rfl))⟩
          · have h := ite_f h hb
            refine T_skipp (p := [1, 1, 1, 1, 0, 1, 0, 0, 1, 0, 0, 1, 0, 1, 1]) (by kernel_rfl) ?_
            refine (T.weaken ?_ (Sub.refl _) : T Try.prog C (at_ cBack [1, 1, 1, 1, 0, 1, 0, 0, 1, 0, 0, 1, 1]) _ _)
            refine T_join (p := [1, 1, 1, 1, 0, 1, 0, 0, 1, 0, 0, 1, 1]) (by kernel_rfl) (fun s2 => ∃ (s : List UInt8) (vs1 : List UInt8) (vi5 : Int) (vi3 : Int) (vi6 : Int), BBack_3 fuel (BBack_1 fuel f) s vs1 vi5 vi3 vi6 = some res ∧ Sub C s2 (mkS [(0, .p (.str s)), (3, .p (.str vs1)), (4, .p (.int .i64 vi5)), (5, .p (.int .i64 vi3)), (6, .p (.int .u8 vi6))] [])) ?_ ?_
            · refine T_seqp (p := [1, 1, 1, 1, 0, 1, 0, 0, 1, 0, 0, 1, 1, 0]) (by kernel_rfl) ?_
              refine T_reg henv hC [] [(0, .p (.str s)), (3, .p (.str vs1)), (4, .p (.int .i64 vi2)), (5, .p (.int .i64 vi3)), (6, .p (.int .u8 ((vs1.getD (vi3).toNat 0).toNat : Int))), (25, .p (.bool (((vs1.getD (vi3).toNat 0).toNat : Int) != (13 : Int))))] [] [] (by kernel_rfl) (by kernel_rfl) trivial (fun s1 hs1 => ?_)
              refine (T.weaken ?_ hs1 : T Try.prog C (at_ cBack [1, 1, 1, 1, 0, 1, 0, 0, 1, 0, 0, 1, 1, 0, 1]) _ _)
              refine T_condp (p := [1, 1, 1, 1, 0, 1, 0, 0, 1, 0, 0, 1, 1, 0, 1]) (by kernel_rfl) (((vs1.getD (vi3).toNat 0).toNat : Int) != (13 : Int)) (by kernel_rfl) (fun hb => ?_) (fun hb => ?_)
              · have h := ite_t h hb
                obtain ⟨hob, h⟩ := ite_get h
                refine T_reg henv hC [] [(0, .p (.str s)), (3, .p (.str vs1)), (4, .p (.int .i64 (vi2 + (1 : Int)))), (5, .p (.int .i64 vi3)), (6, .p (.int .u8 ((vs1.getD (vi3).toNat 0).toNat : Int)))] [] [i64ok (vi2 + (1 : Int))] (by kernel_rfl) (by kernel_rfl) ⟨hob, trivial⟩ (fun s1 hs1 => ?_)
                exact ⟨s, vs1, vi2 + (1 : Int), vi3, ((vs1.getD (vi3).toNat 0).toNat : Int), h, Sub.trans hs1 (Sub_view hC [] (by kernel_rfl) (by kernel_rfl) (by kernel_rfl))⟩
              · have h := ite_f h hb
                refine T_skipp (p := [1, 1, 1, 1, 0, 1, 0, 0, 1, 0, 0, 1, 1, 0, 1, 1]) (by kernel_rfl) ?_
                exact ⟨s, vs1, vi2, vi3, ((vs1.getD (vi3).toNat 0).toNat : Int), h, Sub.trans (Sub.refl _) (Sub_view hC [] (by kernel_rfl) (by kernel_rfl) (by kernel_rfl))⟩
            · rintro s2 ⟨s, vs1, vi5, vi3, vi6, h, hs2⟩
              unfold BBack_3 at h
              refine (T.weaken ?_ hs2 : T Try.prog C (at_ cBack [1, 1, 1, 1, 0, 1, 0, 0, 1, 0, 0, 1, 1, 1]) _ _)
              refine T_seqp (p := [1, 1, 1, 1, 0, 1, 0, 0, 1, 0, 0, 1, 1, 1]) (by kernel_rfl) ?_
              refine T_reg henv hC [] [(0, .p (.str s)), (3, .p (.str vs1)), (4, .p (.int .i64 vi5)), (5, .p (.int .i64 vi3)), (41, .p (.bool (((decide (vi5 > (76 : Int))) || (decide (vi6 > (126 : Int)))) || ((decide (vi6 < (32 : Int))) && (vi6 != (13 : Int))))))] [] [(!(decide (vi5 > (76 : Int)))) = true → (!(decide (vi5 > (76 : Int)))) = true, (decide (vi5 > (76 : Int))) = false → (!(decide (vi5 > (76 : Int)))) = true, (!((decide (vi5 > (76 : Int))) || (decide (vi6 > (126 : Int))))) = true → (!((decide (vi5 > (76 : Int))) || (decide (vi6 > (126 : Int))))) = true, (!((decide (vi5 > (76 : Int))) || (decide (vi6 > (126 : Int))))) = true → (!((decide (vi5 > (76 : Int))) || (decide (vi6 > (126 : Int))))) = true, ((!((decide (vi5 > (76 : Int))) || (decide (vi6 > (126 : Int))))) && (decide (vi6 < (32 : Int)))) = true → ((!((decide (vi5 > (76 : Int))) || (decide (vi6 > (126 : Int))))) && (decide (vi6 < (32 : Int)))) = true, (!((decide (vi5 > (76 : Int))) || (decide (vi6 > (126 : Int))))) = true → (!((decide (vi5 > (76 : Int))) || (decide (vi6 > (126 : Int))))) = true, (!((decide (vi5 > (76 : Int))) || (decide (vi6 > (126 : Int))))) = true → (decide (vi6 < (32 : Int))) = true → ((!((decide (vi5 > (76 : Int))) || (decide (vi6 > (126 : Int))))) && (decide (vi6 < (32 : Int)))) = true, ((decide (vi5 > (76 : Int))) || (decide (vi6 > (126 : Int)))) = false → (!((decide (vi5 > (76 : Int))) || (decide (vi6 > (126 : Int))))) = true] (by kernel_rfl) (by kernel_rfl) ⟨(fun q0 => q0), (fun q0 => (not_mk q0)), (fun q0 => q0), (fun q0 => q0), (fun q0 => q0), (fun q0 => q0), (fun q0 q1 => (and_mk q0 q1)), (fun q0 => (not_mk q0)), trivial⟩ (fun s1 hs1 => ?_)
              refine (T.weaken ?_ hs1 : T Try.prog C (at_ cBack [1, 1, 1, 1, 0, 1, 0, 0, 1, 0, 0, 1, 1, 1, 1]) _ _)
              refine T_condp (p := [1, 1, 1, 1, 0, 1, 0, 0, 1, 0, 0, 1, 1, 1, 1]) (by kernel_rfl) (((decide (vi5 > (76 : Int))) || (decide (vi6 > (126 : Int)))) || ((decide (vi6 < (32 : Int))) && (vi6 != (13 : Int)))) (by kernel_rfl) (fun hb => ?_) (fun hb => ?_)
              · have h := ite_t h hb
                refine T_seqp (p := [1, 1, 1, 1, 0, 1, 0, 0, 1, 0, 0, 1, 1, 1, 1, 0]) (by kernel_rfl) ?_
                refine T_reg henv hC [] [(2, .p (.bool false))] [] [] (by kernel_rfl) (by kernel_rfl) trivial (fun s1 hs1 => ?_)
                refine (T.weaken ?_ hs1 : T Try.prog C (at_ cBack [1, 1, 1, 1, 0, 1, 0, 0, 1, 0, 0, 1, 1, 1, 1, 0, 1]) _ _)
                refine T_retp (p := [1, 1, 1, 1, 0, 1, 0, 0, 1, 0, 0, 1, 1, 1, 1, 0, 1]) (by kernel_rfl) ?_
                refine inblock_ret ?_
                refine then_ret ?_
                refine then_ret ?_
                refine inblock_ret ?_
                refine then_ret ?_
                have h := Option.some.inj h; subst h
                exact ⟨mkS [(2, .p (.bool false))] [], (Sub.refl _), by kernel_rfl⟩
              · have h := ite_f h hb
                refine T_skipp (p := [1, 1, 1, 1, 0, 1, 0, 0, 1, 0, 0, 1, 1, 1, 1, 1]) (by kernel_rfl) ?_
                exact ⟨s, vs1, vi5, vi3, h, Sub.trans (Sub.refl _) (Sub_view hC [] (by kernel_rfl) (by kernel_rfl) (by kernel_rfl))⟩
        · rintro s2 ⟨s, vs1, vi4, vi3, h, hs2⟩
          unfold BBack_2 at h
          refine (T.weaken ?_ hs2 : T Try.prog C (at_ cBack [1, 1, 1, 1, 0, 1, 0, 0, 1, 1]) _ _)
          obtain ⟨hob, h⟩ := ite_get h
          refine T_reg henv hC [] [(0, .p (.str s)), (3, .p (.str vs1)), (4, .p (.int .i64 vi4)), (5, .p (.int .i64 (vi3 + (1 : Int))))] [] [i64ok (vi3 + (1 : Int))] (by kernel_rfl) (by kernel_rfl) ⟨hob, trivial⟩ (fun s1 hs1 => ?_)
          exact ⟨f, _, Nat.lt_succ_self f, ⟨s, vs1, vi4, vi3 + (1 : Int), rfl, h⟩, Sub.trans hs1 (Sub_view hC [] (by kernel_rfl) (by kernel_rfl) (by kernel_rfl))⟩
      · have h := ite_f h hb
        refine T_exitp (p := [1, 1, 1, 1, 0, 1, 0, 0, 0, 1, 1]) 0 (by kernel_rfl) ?_
        refine then_exit ?_
        refine then_exit ?_
        refine inblock_hit ?_
        refine (T.weaken ?_ (Sub.refl _) : T Try.prog C (at_ cBack [1, 1, 1, 1, 1]) _ _)
        refine T_seqp (p := [1, 1, 1, 1, 1]) (by kernel_rfl) ?_
        obtain ⟨hob, h⟩ := ite_get h
        refine T_reg henv hC [] [(2, .p (.bool (((decS vs1) == s) && true)))] [] [vs1.length ≤ 1000000, ((decS vs1) == s) = true → ((decS vs1) == s) = true] (by kernel_rfl) (by kernel_rfl) ⟨hob, (fun q0 => q0), trivial⟩ (fun s1 hs1 => ?_)
        refine (T.weaken ?_ hs1 : T Try.prog C (at_ cBack [1, 1, 1, 1, 1, 1]) _ _)
        refine T_retp (p := [1, 1, 1, 1, 1, 1]) (by kernel_rfl) ?_
        have h := Option.some.inj h; subst h
        exact ⟨mkS [(2, .p (.bool (((decS vs1) == s) && true)))] [], (Sub.refl _), by kernel_rfl⟩

theorem fn_Back (fuel : Nat) (s : List UInt8) (res : Bool) (h : (∃ M vs, ARels γ0 M [.p (.str s)] vs) → FBack fuel s = some res) : FnP Try.prog 4 [.p (.str s)] (.p (.bool res)) :=
  FnP_lift (fn := Try.f4) (by kernel_rfl) (by kernel_rfl) fun M vs hvs C hC0 => have hC : CtxOk C 49 [] := ⟨hC0.nt.trans (by kernel_rfl), hC0.fx⟩; T.weaken (TBack fuel s res (h ⟨M, vs, hvs⟩) C hC) (sinit_sub hC (by kernel_rfl) (by kernel_rfl))
end Go.Proofs.Ytnojfkkdihchiaa
