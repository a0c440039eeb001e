/-
  Lifted functions, and facts about them.
-/
import Derived.Test.YtdjlilhdgnogaaaRows
import Derived.Test.YtdjlilhdgnogaaaAmB
import Derived.Test.YtdjlilhdgnogaaaB3Lits
set_option linter.unusedVariables false

namespace Go.Proofs.Ytdjlilhdgnogaaa
open Go Go.Am
def Falpha (fuel : Nat)  : Option (List UInt8) := some LB_7543b37f

noncomputable def calpha : Code := bodyOf Try.f19

def envalpha : Env := mkEnv []

theorem envalpha_ok : EnvOk Try.prog envalpha := EnvOk_mk trivial

theorem Talpha (fuel : Nat)  (res : List UInt8) (h : Falpha fuel  = some res) (C : Ctx) (hC : CtxOk C 1 []) :
    T Try.prog C (at_ calpha []) (mkS [] []) (Qend Try.prog C Try.f19.results.toList (.p (.str res))) := by
  have henv := envalpha_ok
  unfold Falpha at h
  refine T_seqp (p := []) (by kernel_rfl) ?_
  refine T_reg henv hC [] [] [] [] (by kernel_rfl) (by kernel_rfl) trivial (fun s1 hs1 => ?_)
  refine (T.weaken ?_ hs1 : T Try.prog C (at_ calpha [1]) _ _)
  refine T_seqp (p := [1]) (by kernel_rfl) ?_
  refine T_reg henv hC [] [(0, .p (.str LB_7543b37f))] [] [] (by kernel_rfl) (by kernel_rfl) trivial (fun s1 hs1 => ?_)
  refine (T.weaken ?_ hs1 : T Try.prog C (at_ calpha [1, 1]) _ _)
  refine T_retp (p := [1, 1]) (by kernel_rfl) ?_
  have h := Option.some.inj h; subst h
  exact ⟨mkS [(0, .p (.str LB_7543b37f))] [], (Sub.refl _), by kernel_rfl⟩

theorem fn_alpha (fuel : Nat)  (res : List UInt8) (h : (∃ M vs, ARels γ0 M [] vs) → Falpha fuel  = some res) : FnP Try.prog 19 [] (.p (.str res)) :=
  FnP_lift (fn := Try.f19) (by kernel_rfl) (by kernel_rfl) fun M vs hvs C hC0 => have hC : CtxOk C 1 [] := ⟨hC0.nt.trans (by kernel_rfl), hC0.fx⟩; T.weaken (Talpha fuel  res (h ⟨M, vs, hvs⟩) C hC) (sinit_sub hC (by kernel_rfl) (by kernel_rfl))

def FNum (fuel : Nat) (e : Int) : Option Int := some e

noncomputable def cNum : Code := bodyOf Try.f13

def envNum : Env := mkEnv []

theorem envNum_ok : EnvOk Try.prog envNum := EnvOk_mk trivial

theorem TNum (fuel : Nat) (e : Int) (res : Int) (h : FNum fuel e = some res) (C : Ctx) (hC : CtxOk C 4 []) :
    T Try.prog C (at_ cNum []) (mkS [(0, .p (.int .i64 e))] []) (Qend Try.prog C Try.f13.results.toList (.p (.int .i64 res))) := by
  have henv := envNum_ok
  unfold FNum at h
  refine T_seqp (p := []) (by kernel_rfl) ?_
  refine T_reg henv hC [] [(0, .p (.int .i64 e))] [] [] (by kernel_rfl) (by kernel_rfl) trivial (fun s1 hs1 => ?_)
  refine (T.weaken ?_ hs1 : T Try.prog C (at_ cNum [1]) _ _)
  refine T_seqp (p := [1]) (by kernel_rfl) ?_
  refine T_reg henv hC [] [(2, .p (.int .i64 e))] [] [] (by kernel_rfl) (by kernel_rfl) trivial (fun s1 hs1 => ?_)
  refine (T.weaken ?_ hs1 : T Try.prog C (at_ cNum [1, 1]) _ _)
  refine T_retp (p := [1, 1]) (by kernel_rfl) ?_
  have h := Option.some.inj h; subst h
  exact ⟨mkS [(2, .p (.int .i64 e))] [], (Sub.refl _), by kernel_rfl⟩

theorem fn_Num (fuel : Nat) (e : Int) (res : Int) (h : (∃ M vs, ARels γ0 M [.p (.int .i64 e)] vs) → FNum fuel e = some res) : FnP Try.prog 13 [.p (.int .i64 e)] (.p (.int .i64 res)) :=
  FnP_lift (fn := Try.f13) (by kernel_rfl) (by kernel_rfl) fun M vs hvs C hC0 => have hC : CtxOk C 4 [] := ⟨hC0.nt.trans (by kernel_rfl), hC0.fx⟩; T.weaken (TNum fuel e res (h ⟨M, vs, hvs⟩) C hC) (sinit_sub hC (by kernel_rfl) (by kernel_rfl))

def Bletters_1 (fuel : Nat)  : Nat → Int → Int → Int → List UInt8 → Option (List UInt8)
  | 0, _, _, _, _ => none
  | f + 1, bits, n, vi1, vb2 => if (decide (vi1 < n)) = true then (if (i64ok ((6 : Int) * vi1)) ∧ (i64ok ((18 : Int) - ((6 : Int) * vi1))) ∧ (0 ≤ ((18 : Int) - ((6 : Int) * vi1))) ∧ (0 ≤ (ibits .and .i64 (bits.fdiv (2 ^ (min ((18 : Int) - ((6 : Int) * vi1)).toNat 64))) (63 : Int)) ∧ (ibits .and .i64 (bits.fdiv (2 ^ (min ((18 : Int) - ((6 : Int) * vi1)).toNat 64))) (63 : Int)) < (LB_7543b37f.length : Int)) ∧ ((vb2.length + [UInt8.ofNat (((LB_7543b37f.getD (ibits .and .i64 (bits.fdiv (2 ^ (min ((18 : Int) - ((6 : Int) * vi1)).toNat 64))) (63 : Int)).toNat 0).toNat : Int)).toNat].length) * 1 ≤ 140737488355328) then (if i64ok (vi1 + (1 : Int)) then (Bletters_1 fuel f bits n (vi1 + (1 : Int)) (vb2 ++ [UInt8.ofNat (((LB_7543b37f.getD (ibits .and .i64 (bits.fdiv (2 ^ (min ((18 : Int) - ((6 : Int) * vi1)).toNat 64))) (63 : Int)).toNat 0).toNat : Int)).toNat])) else none) else none) else (some vb2)

def Fletters (fuel : Nat) (bits : Int) (n : Int) : Option (List UInt8) := Bletters_1 fuel fuel bits n (0 : Int) []

noncomputable def cletters : Code := bodyOf Try.f16

def envletters : Env := mkEnv []

theorem envletters_ok : EnvOk Try.prog envletters := EnvOk_mk trivial

theorem Tletters (fuel : Nat) (bits : Int) (n : Int) (res : List UInt8) (h : Fletters fuel bits n = some res) (C : Ctx) (hC : CtxOk C 23 []) :
    T Try.prog C (at_ cletters []) (mkS [(0, .p (.int .i64 bits)), (1, .p (.int .i64 n))] []) (Qend Try.prog C Try.f16.results.toList (.p (.bytes res))) := by
  have henv := envletters_ok
  unfold Fletters at h
  refine T_seqp (p := []) (by kernel_rfl) ?_
  refine T_reg henv hC [] [(0, .p (.int .i64 bits)), (1, .p (.int .i64 n))] [] [] (by kernel_rfl) (by kernel_rfl) trivial (fun s1 hs1 => ?_)
  refine (T.weaken ?_ hs1 : T Try.prog C (at_ cletters [1]) _ _)
  refine T_seqp (p := [1]) (by kernel_rfl) ?_
  refine T_reg henv hC [(5, none)] [(0, .p (.int .i64 bits)), (1, .p (.int .i64 n)), (5, .arr 5)] [(5, .barr 5 false [])] [] (by kernel_rfl) (by kernel_rfl) trivial (fun s1 hs1 => ?_)
  refine (T.weaken ?_ hs1 : T Try.prog C (at_ cletters [1, 1]) _ _)
  refine T_seqp (p := [1, 1]) (by kernel_rfl) ?_
  refine T_seqp (p := [1, 1, 0]) (by kernel_rfl) ?_
  refine T_reg henv hC [(5, some 5)] [(0, .p (.int .i64 bits)), (5, .arr 5), (7, .p (.int .i64 n)), (8, .p (.int .i64 (0 : Int)))] [(5, .barr 5 false [])] [] (by kernel_rfl) (by kernel_rfl) trivial (fun s1 hs1 => ?_)
  refine (T.weaken ?_ hs1 : T Try.prog C (at_ cletters [1, 1, 0, 1]) _ _)
  refine T_blockp (p := [1, 1, 0, 1]) 0 (by kernel_rfl) ?_
  refine T.weaken ?_ (Sub_view (l := [(0, .p (.int .i64 bits)), (5, .arr 5), (7, .p (.int .i64 n)), (8, .p (.int .i64 (0 : Int)))]) (o := [(5, .barr 5 false [])]) hC [(5, some 5)] (by kernel_rfl) (by kernel_rfl) (by kernel_rfl))
  refine T_loopp (p := [1, 1, 0, 1, 0]) (by kernel_rfl) (fun f s2 => ∃ (bits : Int) (n : Int) (vi1 : Int) (vb2 : List UInt8), s2 = mkS [(0, .p (.int .i64 bits)), (5, .arr 5), (7, .p (.int .i64 n)), (8, .p (.int .i64 vi1))] [(5, .barr 5 false vb2)] ∧ Bletters_1 fuel f bits n vi1 vb2 = some res) ?_ fuel ⟨bits, n, (0 : Int), [], rfl, h⟩
  rintro f s2 ⟨bits, n, vi1, vb2, rfl, h⟩
  cases f with
  | zero => cases h
  | succ f =>
    rw [Bletters_1] at h
    refine T_seqp (p := [1, 1, 0, 1, 0, 0]) (by kernel_rfl) ?_
    refine T_reg henv hC [(5, some 5)] [(0, .p (.int .i64 bits)), (5, .arr 5), (7, .p (.int .i64 n)), (8, .p (.int .i64 vi1)), (9, .p (.bool (decide (vi1 < n))))] [(5, .barr 5 false vb2)] [] (by kernel_rfl) (by kernel_rfl) trivial (fun s1 hs1 => ?_)
    refine (T.weaken ?_ hs1 : T Try.prog C (at_ cletters [1, 1, 0, 1, 0, 0, 1]) _ _)
    refine T_seqp (p := [1, 1, 0, 1, 0, 0, 1]) (by kernel_rfl) ?_
    refine T_condp (p := [1, 1, 0, 1, 0, 0, 1, 0]) (by kernel_rfl) (decide (vi1 < n)) (by kernel_rfl) (fun hb => ?_) (fun hb => ?_)
    · have h := ite_t h hb
      refine T_skipp (p := [1, 1, 0, 1, 0, 0, 1, 0, 0]) (by kernel_rfl) ?_
      refine (T.weaken ?_ (Sub.refl _) : T Try.prog C (at_ cletters [1, 1, 0, 1, 0, 0, 1, 1]) _ _)
      refine T_seqp (p := [1, 1, 0, 1, 0, 0, 1, 1]) (by kernel_rfl) ?_
      refine T_blockp (p := [1, 1, 0, 1, 0, 0, 1, 1, 0]) 1 (by kernel_rfl) ?_
      refine T_seqp (p := [1, 1, 0, 1, 0, 0, 1, 1, 0, 0]) (by kernel_rfl) ?_
      refine T_reg henv hC [(5, some 5)] [(0, .p (.int .i64 bits)), (5, .arr 5), (6, .p (.int .i64 vi1)), (7, .p (.int .i64 n)), (8, .p (.int .i64 vi1))] [(5, .barr 5 false vb2)] [] (by kernel_rfl) (by kernel_rfl) trivial (fun s1 hs1 => ?_)
      refine (T.weaken ?_ hs1 : T Try.prog C (at_ cletters [1, 1, 0, 1, 0, 0, 1, 1, 0, 0, 1]) _ _)
      obtain ⟨hob, h⟩ := ite_get h
      refine T_reg henv hC [(5, some 20)] [(0, .p (.int .i64 bits)), (5, .arr 5), (7, .p (.int .i64 n)), (8, .p (.int .i64 vi1))] [(5, .barr 5 false (vb2 ++ [UInt8.ofNat (((LB_7543b37f.getD (ibits .and .i64 (bits.fdiv (2 ^ (min ((18 : Int) - ((6 : Int) * vi1)).toNat 64))) (63 : Int)).toNat 0).toNat : Int)).toNat]))] [i64ok ((6 : Int) * vi1), i64ok ((18 : Int) - ((6 : Int) * vi1)), 0 ≤ ((18 : Int) - ((6 : Int) * vi1)), 0 ≤ (ibits .and .i64 (bits.fdiv (2 ^ (min ((18 : Int) - ((6 : Int) * vi1)).toNat 64))) (63 : Int)) ∧ (ibits .and .i64 (bits.fdiv (2 ^ (min ((18 : Int) - ((6 : Int) * vi1)).toNat 64))) (63 : Int)) < (LB_7543b37f.length : Int), (vb2.length + [UInt8.ofNat (((LB_7543b37f.getD (ibits .and .i64 (bits.fdiv (2 ^ (min ((18 : Int) - ((6 : Int) * vi1)).toNat 64))) (63 : Int)).toNat 0).toNat : Int)).toNat].length) * 1 ≤ 140737488355328] (by kernel_rfl) (by kernel_rfl) ⟨hob.1, hob.2.1, hob.2.2.1, hob.2.2.2.1, hob.2.2.2.2, trivial⟩ (fun s1 hs1 => ?_)
      refine (T.weaken ?_ hs1 : T Try.prog C (at_ cletters [1, 1, 0, 1, 0, 0, 1, 1, 1]) _ _)
      obtain ⟨hob, h⟩ := ite_get h
      refine T_reg henv hC [(5, some 5)] [(0, .p (.int .i64 bits)), (5, .arr 5), (7, .p (.int .i64 n)), (8, .p (.int .i64 (vi1 + (1 : Int))))] [(5, .barr 5 false (vb2 ++ [UInt8.ofNat (((LB_7543b37f.getD (ibits .and .i64 (bits.fdiv (2 ^ (min ((18 : Int) - ((6 : Int) * vi1)).toNat 64))) (63 : Int)).toNat 0).toNat : Int)).toNat]))] [i64ok (vi1 + (1 : Int))] (by kernel_rfl) (by kernel_rfl) ⟨hob, trivial⟩ (fun s1 hs1 => ?_)
      exact ⟨f, _, Nat.lt_succ_self f, ⟨bits, n, vi1 + (1 : Int), vb2 ++ [UInt8.ofNat (((LB_7543b37f.getD (ibits .and .i64 (bits.fdiv (2 ^ (min ((18 : Int) - ((6 : Int) * vi1)).toNat 64))) (63 : Int)).toNat 0).toNat : Int)).toNat], rfl, h⟩, Sub.trans hs1 (Sub_view hC [(5, some 5)] (by kernel_rfl) (by kernel_rfl) (by kernel_rfl))⟩
    · have h := ite_f h hb
      refine T_exitp (p := [1, 1, 0, 1, 0, 0, 1, 0, 1]) 0 (by kernel_rfl) ?_
      refine then_exit ?_
      refine then_exit ?_
      refine inblock_hit ?_
      refine (T.weaken ?_ (Sub.refl _) : T Try.prog C (at_ cletters [1, 1, 1]) _ _)
      refine T_seqp (p := [1, 1, 1]) (by kernel_rfl) ?_
      refine T_reg henv hC [(4, some 5)] [(4, .arr 4)] [(4, .barr 5 false vb2)] [] (by kernel_rfl) (by kernel_rfl) trivial (fun s1 hs1 => ?_)
      refine (T.weaken ?_ hs1 : T Try.prog C (at_ cletters [1, 1, 1, 1]) _ _)
      refine T_retp (p := [1, 1, 1, 1]) (by kernel_rfl) ?_
      have h := Option.some.inj h; subst h
      exact ⟨mkS [(4, .arr 4)] [(4, .barr 5 false vb2)], (Sub.refl _), by kernel_rfl⟩

theorem fn_letters (fuel : Nat) (bits : Int) (n : Int) (res : List UInt8) (h : (∃ M vs, ARels γ0 M [.p (.int .i64 bits), .p (.int .i64 n)] vs) → Fletters fuel bits n = some res) : FnP Try.prog 16 [.p (.int .i64 bits), .p (.int .i64 n)] (.p (.bytes res)) :=
  FnP_lift (fn := Try.f16) (by kernel_rfl) (by kernel_rfl) fun M vs hvs C hC0 => have hC : CtxOk C 23 [] := ⟨hC0.nt.trans (by kernel_rfl), hC0.fx⟩; T.weaken (Tletters fuel bits n res (h ⟨M, vs, hvs⟩) C hC) (sinit_sub hC (by kernel_rfl) (by kernel_rfl))
end Go.Proofs.Ytdjlilhdgnogaaa
