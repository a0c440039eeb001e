/-
  A lifted function, or a fact about one.
-/
import Derived.Test.YtnojfkkdihchiaaRows
import Derived.Test.YtnojfkkdihchiaaAmDrawRR
import Derived.Test.YtnojfkkdihchiaaQSpec3
namespace Go.Proofs.Ytnojfkkdihchiaa
open Go Go.Am
def FAll (fuel : Nat) (s : List UInt8) : Option Bool := if ((!(decide ((s.length : Int) > (3000 : Int)))) = true → s.length ≤ 1000000) ∧ ((!(decide ((s.length : Int) > (3000 : Int)))) = true → s.length ≤ 1000000) ∧ (((!(decide ((s.length : Int) > (3000 : Int)))) && ((encL 0 s) == (encL 0 s))) = true → s.length ≤ 1000000) ∧ (((!(decide ((s.length : Int) > (3000 : Int)))) && ((encL 0 s) == (encL 0 s))) = true → s.length ≤ 1000000) then (some ((decide ((s.length : Int) > (3000 : Int))) || ((((encL 0 s) == (encL 0 s)) && ((decS s) == (decS s))) && true))) else none

noncomputable def cAll : Code := bodyOf Try.f3

def envAll : Env := mkEnv [(8, sp_Encode), (9, sp_Quoted), (10, sp_Decode), (11, sp_Plain), (12, sp_awake)]

theorem envAll_ok : EnvOk Try.prog envAll := EnvOk_mk ⟨ok_Encode, ok_Quoted, ok_Decode, ok_Plain, ok_awake, trivial⟩

theorem TAll (fuel : Nat) (s : List UInt8) (res : Bool) (h : FAll fuel s = some res) (C : Ctx) (hC : CtxOk C 23 []) :
    T Try.prog C (at_ cAll []) (mkS [(0, .p (.str s))] []) (Qend Try.prog C Try.f3.results.toList (.p (.bool res))) := by
  have henv := envAll_ok
  unfold FAll at h
  refine T_seqp (p := []) (by kernel_rfl) ?_
  refine T_reg henv hC [] [(0, .p (.str s))] [] [] (by kernel_rfl) (by kernel_rfl) trivial (fun s1 hs1 => ?_)
  refine (T.weaken ?_ hs1 : T Try.prog C (at_ cAll [1]) _ _)
  refine T_seqp (p := [1]) (by kernel_rfl) ?_
  obtain ⟨hob, h⟩ := ite_get h
  refine T_reg henv hC [] [(2, .p (.bool ((decide ((s.length : Int) > (3000 : Int))) || ((((encL 0 s) == (encL 0 s)) && ((decS s) == (decS s))) && true))))] [] [(!(decide ((s.length : Int) > (3000 : Int)))) = true → (!(decide ((s.length : Int) > (3000 : Int)))) = true, (!(decide ((s.length : Int) > (3000 : Int)))) = true → s.length ≤ 1000000, (!(decide ((s.length : Int) > (3000 : Int)))) = true → (!(decide ((s.length : Int) > (3000 : Int)))) = true, (!(decide ((s.length : Int) > (3000 : Int)))) = true → s.length ≤ 1000000, (!(decide ((s.length : Int) > (3000 : Int)))) = true → (!(decide ((s.length : Int) > (3000 : Int)))) = true, (!(decide ((s.length : Int) > (3000 : Int)))) = true → (!(decide ((s.length : Int) > (3000 : Int)))) = true, (!(decide ((s.length : Int) > (3000 : Int)))) = true → (!(decide ((s.length : Int) > (3000 : Int)))) = true, ((!(decide ((s.length : Int) > (3000 : Int)))) && ((encL 0 s) == (encL 0 s))) = true → ((!(decide ((s.length : Int) > (3000 : Int)))) && ((encL 0 s) == (encL 0 s))) = true, ((!(decide ((s.length : Int) > (3000 : Int)))) && ((encL 0 s) == (encL 0 s))) = true → s.length ≤ 1000000, ((!(decide ((s.length : Int) > (3000 : Int)))) && ((encL 0 s) == (encL 0 s))) = true → ((!(decide ((s.length : Int) > (3000 : Int)))) && ((encL 0 s) == (encL 0 s))) = true, ((!(decide ((s.length : Int) > (3000 : Int)))) && ((encL 0 s) == (encL 0 s))) = true → s.length ≤ 1000000, ((!(decide ((s.length : Int) > (3000 : Int)))) && ((encL 0 s) == (encL 0 s))) = true → ((!(decide ((s.length : Int) > (3000 : Int)))) && ((encL 0 s) == (encL 0 s))) = true, ((!(decide ((s.length : Int) > (3000 : Int)))) && ((encL 0 s) == (encL 0 s))) = true → ((!(decide ((s.length : Int) > (3000 : Int)))) && ((encL 0 s) == (encL 0 s))) = true, (!(decide ((s.length : Int) > (3000 : Int)))) = true → (!(decide ((s.length : Int) > (3000 : Int)))) = true, (!(decide ((s.length : Int) > (3000 : Int)))) = true → ((encL 0 s) == (encL 0 s)) = true → ((!(decide ((s.length : Int) > (3000 : Int)))) && ((encL 0 s) == (encL 0 s))) = true, (!(decide ((s.length : Int) > (3000 : Int)))) = true → (!(decide ((s.length : Int) > (3000 : Int)))) = true, (!(decide ((s.length : Int) > (3000 : Int)))) = true → (!(decide ((s.length : Int) > (3000 : Int)))) = true, (!(decide ((s.length : Int) > (3000 : Int)))) = true → (((encL 0 s) == (encL 0 s)) && ((decS s) == (decS s))) = true → ((!(decide ((s.length : Int) > (3000 : Int)))) && (((encL 0 s) == (encL 0 s)) && ((decS s) == (decS s)))) = true, (decide ((s.length : Int) > (3000 : Int))) = false → (!(decide ((s.length : Int) > (3000 : Int)))) = true] (by kernel_rfl) (by kernel_rfl) ⟨(fun q0 => q0), hob.1, (fun q0 => q0), hob.2.1, (fun q0 => q0), (fun q0 => q0), (fun q0 => q0), (fun q0 => q0), hob.2.2.1, (fun q0 => q0), hob.2.2.2, (fun q0 => q0), (fun q0 => q0), (fun q0 => q0), (fun q0 q1 => (and_mk q0 q1)), (fun q0 => q0), (fun q0 => q0), (fun q0 q1 => (and_mk q0 q1)), (fun q0 => (not_mk q0)), trivial⟩ (fun s1 hs1 => ?_)
  refine (T.weaken ?_ hs1 : T Try.prog C (at_ cAll [1, 1]) _ _)
  refine T_retp (p := [1, 1]) (by kernel_rfl) ?_
  have h := Option.some.inj h; subst h
  exact ⟨mkS [(2, .p (.bool ((decide ((s.length : Int) > (3000 : Int))) || ((((encL 0 s) == (encL 0 s)) && ((decS s) == (decS s))) && true))))] [], (Sub.refl _), by kernel_rfl⟩

theorem fn_All (fuel : Nat) (s : List UInt8) (res : Bool) (h : (∃ M vs, ARels γ0 M [.p (.str s)] vs) → FAll fuel s = some res) : FnP Try.prog 3 [.p (.str s)] (.p (.bool res)) :=
  FnP_lift (fn := Try.f3) (by kernel_rfl) (by kernel_rfl) fun M vs hvs C hC0 => have hC : CtxOk C 23 [] := ⟨hC0.nt.trans (by kernel_rfl), hC0.fx⟩; T.weaken (TAll fuel s res (h ⟨M, vs, hvs⟩) C hC) (sinit_sub hC (by kernel_rfl) (by kernel_rfl))
end Go.Proofs.Ytnojfkkdihchiaa
