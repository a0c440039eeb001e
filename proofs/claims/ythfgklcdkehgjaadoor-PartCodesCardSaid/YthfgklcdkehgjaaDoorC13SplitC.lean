/-
  Lifted functions, and facts about them.
-/
import Derived.Test.YthfgklcdkehgjaaDoorRows
import Derived.Test.YthfgklcdkehgjaaDoorAmC
import Derived.Test.YthfgklcdkehgjaaDoorC13SplitB
namespace Go.Proofs.YthfgklcdkehgjaaDoor
open Go Go.Am
set_option linter.unusedVariables false
/-! field.Split: the iterator. -/
noncomputable def opsI : Array Oper := opsOf (at_ cI [0, 0, 1, 0, 1, 1, 0, 0])
def cutY : Cut := ⟨[0, 1, 2, 3, 6, 28, 29, 30], cutI.own⟩
def cutN : Cut := ⟨[0, 1, 2, 3, 6, 32], cutI.own⟩
theorem mv_eq (l : Nat) (s t : List UInt8) (body i b nx : Int) (g : List (List UInt8)) (rec : Loop) : aopsK Tryd.prog GI.env 34 opsI [0, 1, 2] (mkS [(0, .clo (.yield l) [] []), (1, .ref 1001 0), (2, .ref 1002 0), (3, .ref 1003 0), (5, .p (.str t)), (6, .p (.int .i64 nx))] (oI body g i b s rec)) keepI cutY =
    some ((.tup [.p (.int .i64 (-1)), .clo (.yield l) [] [], .ref 1001 0, .ref 1002 0, .ref 1003 0, .p (.int .i64 nx), .clo (.yield l) [] [], .p (.str t), .p (.int .i64 nx)], oI body g i b s rec), []) := by kernel_rfl
theorem not_eq (l : Nat) (s : List UInt8) (body i b nx : Int) (g : List (List UInt8)) (c : Bool) (rec : Loop) : aopsK Tryd.prog GI.env 34 opsI [4] (mkS [(0, .clo (.yield l) [] []), (1, .ref 1001 0), (2, .ref 1002 0), (3, .ref 1003 0), (6, .p (.int .i64 nx)), (31, .p (.bool c))] (oI body g i b s rec)) keepI cutN =
    some ((.tup [.p (.int .i64 (-1)), .clo (.yield l) [] [], .ref 1001 0, .ref 1002 0, .ref 1003 0, .p (.int .i64 nx), .p (.bool (!c))], oI body g i b s rec), []) := by kernel_rfl
theorem cI_eq : cI = .block 0 (.loop (.seq (at_ cI [0, 0, 0]) (.block 1 (.seq (at_ cI [0, 0, 1, 0, 0]) (.seq (at_ cI [0, 0, 1, 0, 1, 0]) (.seq (.seq (.region 5 opsI false) (at_ cI [0, 0, 1, 0, 1, 1, 0, 1])) (at_ cI [0, 0, 1, 0, 1, 1, 1]))))))) := by kernel_rfl
theorem y_op : ∃ ts type pos after, opsI[3]? = some ⟨some 31, .call ⟨.value (.tmp 28), #[.tmp 29, .tmp 30], ts⟩, type, pos, after, none⟩ := ⟨_, _, _, _, rfl⟩
theorem opsI_size : List.range opsI.size = [0, 1, 2] ++ [3, 4] := by kernel_rfl
theorem res_I {C : Ctx} {γ : Nat → Option G} {M : Mem} {st : S} {a : Act} {w : World} (hs : StG C γ M st a w) : ∃ v, (results Tryd.f92 a.tmps).run Tryd.prog w = .ok v w := by
  obtain ⟨v, hv, _⟩ := aresultsR_sound (r := .tup []) hs Tryd.f92 (by kernel_rfl)
  exact ⟨v, hv⟩
theorem gath_none {t : List UInt8} {i nx : Nat} {body : Int} {g : List (List UInt8)} {r : List (Nat × List UInt8 × Nat)} (h : (stp t (nx : Int) body g).1 = none) : gathS ((i, t, nx) :: r) body g = gathS r (stp t (nx : Int) body g).2.1 (stp t (nx : Int) body g).2.2 := by
  unfold stp at h ⊢
  rw [gathS]
  split at h
  · cases h
  · rename_i h0
    rw [if_neg h0, if_neg h0]
    split <;> rfl
theorem gath_some {t : List UInt8} {i nx : Nat} {body : Int} {g : List (List UInt8)} {r : List (Nat × List UInt8 × Nat)} {c : Code} (h : (stp t (nx : Int) body g).1 = some c) : gathS ((i, t, nx) :: r) body g = ((stp t (nx : Int) body g).2.2, (stp t (nx : Int) body g).2.1) ∧ c = .exit 0 := by
  unfold stp at h ⊢
  rw [gathS]
  split at h
  · rename_i h0
    rw [if_pos h0, if_pos h0]; exact ⟨rfl, (Option.some.inj h).symm⟩
  · split at h <;> cases h
theorem stp_g {t : List UInt8} {nx body : Int} {g : List (List UInt8)} {i n : Nat} (hi : i < n) (hg : g.length ≤ i) (hx : ∀ x ∈ g, x.length ≤ i) (ht : t.length ≤ n - i) : (stp t nx body g).2.2.length ≤ n ∧ ∀ x ∈ (stp t nx body g).2.2, x.length ≤ n := by
  unfold stp
  split
  · exact ⟨by dsimp only; omega, fun x h => by have := hx x h; omega⟩
  · split
    · rename_i h
      have hgl := List.length_pos_iff.2 h.1
      have h1 := hx _ (getD_mem (show g.length - 1 < g.length by omega) [])
      refine ⟨by simp; omega, fun x h => ?_⟩
      rcases List.mem_or_eq_of_mem_set h with h | h
      · have := hx x h; omega
      · rw [h, List.length_append]; omega
    · refine ⟨by simp; omega, fun x h => ?_⟩
      rcases List.mem_append.1 h with h | h
      · have := hx x h; omega
      · rw [List.mem_singleton.1 h]; omega
theorem tagOf_ret {e : Exit} (h : tagOf e = .p (.int .i64 (-2))) : e = .ret := by
  cases e with
  | ret => rfl
  | exit i => simp [tagOf] at h
  | _ => simp [tagOf] at h
theorem chain2 {C : Ctx} {P : Program} {st : S} {a : Act} {w : World} {o : List (Nat × AObj)} {Gc : Cfg} (hG : CfgOk Gc P C) {nt : Nat} {fx : List Nat} (hC : CtxOk C nt fx) {c1 c2 : Code} {c : Cut} {t : AV} {xs : List AV} {R : Exit → Act → World → Prop}
    (hv : runC Gc agNone [] c1 st (kNext Gc c2 (kTag fx c)) = some (.tup (t :: xs), o)) (hs : St C st a w)
    (h : ∀ e a w, tagOf e = t → St C (mkS (List.zip c.slots xs) o) a w → R e a w) : c1.wpIn (FW C.rd) 0 P (Exit.then (c2.wpIn (FW C.rd) 0 P R) R) a w := by
  have key : ∀ e s' a' w', kTag fx c e s' = some (.tup (t :: xs), o) → St C s' a' w' → R e a' w' := by
    intro e s' a' w' hk hs'
    obtain ⟨h1, h2⟩ := kTag_get hC hk
    exact h e a' w' h1 (h2 _ _ hs')
  refine wpIn_piece hG hv hs fun e s1 a1 w1 hk1 hs1 => ?_
  cases e with
  | normal => exact wpIn_piece hG (s := s1) hk1 hs1 fun e s2 a2 w2 hk2 hs2 => key e s2 a2 w2 hk2 hs2
  | exit i => exact key (.exit i) s1 a1 w1 hk1 hs1
  | ret => exact key .ret s1 a1 w1 hk1 hs1
  | goto i => exact key (.goto i) s1 a1 w1 hk1 hs1
  | panic i => exact key (.panic i) s1 a1 w1 hk1 hs1
  | outgrown => exact key .outgrown s1 a1 w1 hk1 hs1
theorem clo0_mk {γ : Nat → Option G} {M : Mem} {fn : Fn} : ARel γ M (.clo fn [] []) (.func fn #[] #[]) := .clo _ _ _ _ _ rfl rfl (fun i hi => absurd hi (Nat.not_lt_zero _)) (fun i hi => absurd hi (Nat.not_lt_zero _))

abbrev lI (l : Nat) : List (Nat × AV) := [(0, .clo (.yield l) [] []), (1, .ref 1001 0), (2, .ref 1002 0), (3, .ref 1003 0)]
structure IInv (γ1 : Nat → Option G) (M1 : Mem) (W1 : World) (o1 : List (Nat × AObj)) (s : List UInt8) (b : Nat) (rec : Loop) (fin : List (List UInt8) × Int) (l : Nat) (i : Nat) (body : Int) (g : List (List UInt8)) (γ : Nat → Option G) (M : Mem) (a : Act) (w : World) : Prop where
  hold : Hold γ M w (oI body g (i : Int) (b : Int) s rec)
  chg : Chg γ1 o1 M1 W1 γ (oI body g (i : Int) (b : Int) s rec) M w
  kept : Kept γ1 γ
  res : gathS (linesN s i b) body g = fin
  ib : i ≤ b
  gl : g.length ≤ i
  gx : ∀ x ∈ g, x.length ≤ i
  sl : ∀ t : Nat, ARel γ M (Am.look t AV.any (lI l)) (a.tmps.getD t undef)
  df : a.defers = []
  nt : a.tmps.size = 34
def IPost (γ1 : Nat → Option G) (M1 : Mem) (W1 : World) (o1 : List (Nat × AObj)) (s : List UInt8) (b : Nat) (fn : FuncId) (tm : Array Value) (D : Nat) (fin : List (List UInt8) × Int) (W2 : World) : Prop :=
  ∃ (γ' : Nat → Option G) (M' : Mem) (i : Int) (st : LoopState) (pe : Option Code), Hold γ' M' W2 (oI fin.2 fin.1 i (b : Int) s (mkRec fn tm D st pe)) ∧ Chg γ1 o1 M1 W1 γ' (oI fin.2 fin.1 i (b : Int) s (mkRec fn tm D st pe)) M' W2 ∧ Kept γ1 γ' ∧
    ((st = .ready ∧ pe = none) ∨ (st = .done ∧ pe = some (.exit 0))) ∧ fin.1.length ≤ b ∧ ∀ x ∈ fin.1, x.length ≤ b
theorem iter_ok {γ1 : Nat → Option G} {M1 : Mem} {W1 : World} {s : List UInt8} {a b : Nat} {fn : FuncId} {tm : Array Value} {D l : Nat} {p q r : Value}
    (hH : Hold γ1 M1 W1 (oI (b : Int) [] (a : Int) (b : Int) s (mkRec fn tm D .ready none))) (hl : γ1 1005 = some (.cell l)) (h7 : ARel γ1 M1 (.ref 7 0) (tm.getD 7 undef)) (h8 : ARel γ1 M1 (.ref 8 0) (tm.getD 8 undef))
    (hp : ARel γ1 M1 (.ref 1001 0) p) (hq : ARel γ1 M1 (.ref 1002 0) q) (hr : ARel γ1 M1 (.ref 1003 0) r) (hsz : tm.size = 98) (hab : a ≤ b) (hb : b ≤ s.length) (hs : s.length ≤ 1000000) :
    Calls Tryd.prog 92 (#[.func (.yield l) #[] #[]] ++ #[p, q, r]) W1 fun e W2 => (∃ v, e = .returned v) ∧ IPost γ1 M1 W1 (oI (b : Int) [] (a : Int) (b : Int) s (mkRec fn tm D .ready none)) s b fn tm D (gathS (linesN s a b) (b : Int) []) W2 := by
  obtain ⟨o1, ho1⟩ : ∃ o1, oI (b : Int) [] (a : Int) (b : Int) s (mkRec fn tm D .ready none) = o1 := ⟨_, rfl⟩
  obtain ⟨fin, hfin⟩ : ∃ fin, gathS (linesN s a b) (b : Int) [] = fin := ⟨_, rfl⟩
  rw [hfin]
  refine callsIn_FW (r := none) (n := 0) |>.1 (callsIn_of_wp (F := FW none) (fn := Tryd.f92) (c := cI) (by kernel_rfl) (by kernel_rfl) trivial ?_ rfl)
  obtain ⟨tm0, ht0⟩ : ∃ x, (#[.func (.yield l) #[] #[]] ++ #[p, q, r]) ++ Array.replicate (Tryd.f92.ntmps - (#[.func (.yield l) #[] #[]] ++ #[p, q, r] : Array Value).size) undef = x := ⟨_, rfl⟩
  have hnn : Tryd.f92.ntmps = 34 := by kernel_rfl
  have z0 : tm0.getD 0 undef = .func (.yield l) #[] #[] := by rw [← ht0]; simp [Array.getD_eq_getD_getElem?]
  have z1 : tm0.getD 1 undef = p := by rw [← ht0]; simp [Array.getD_eq_getD_getElem?]
  have z2 : tm0.getD 2 undef = q := by rw [← ht0]; simp [Array.getD_eq_getD_getElem?]
  have z3 : tm0.getD 3 undef = r := by rw [← ht0]; simp [Array.getD_eq_getD_getElem?]
  have z4 : tm0.size = 34 := by rw [← ht0, hnn]; simp
  rw [ht0]
  clear ht0 hnn
  rw [cI_eq]
  refine wpIn_block (wpIn_loop_f (fun n av wv => ∃ i body g γ M, IInv γ1 M1 W1 (oI (b : Int) [] (a : Int) (b : Int) s (mkRec fn tm D .ready none)) s b (mkRec fn tm D .ready none) fin l i body g γ M av wv ∧ n = b - i) ?_ (b - a) ⟨a, b, [], γ1, M1, ⟨hH, Chg.refl, fun _ _ _ h => h, hfin, hab, by simp, by simp, ?_, rfl, ?_⟩, rfl⟩)
  · rintro n' a1 w1 ⟨i, body, g, γ, M, hI, hn⟩
    have hG : CfgOk GI Tryd.prog (ctxOf w1 M γ (oI body g (i : Int) (b : Int) s (mkRec fn tm D .ready none)) keepI 34 none []) := ⟨rfl, GI_env, GI_envR, ctxOf_ok, Checked.mixed Tryd.checked⟩
    have hst : St (ctxOf w1 M γ (oI body g (i : Int) (b : Int) s (mkRec fn tm D .ready none)) keepI 34 none []) (mkS (lI l) (oI body g (i : Int) (b : Int) s (mkRec fn tm D .ready none))) a1 w1 := ⟨γ, M, hI.hold.lend hI.sl hI.df hI.nt⟩
    by_cases hi : i < b
    · refine chain3 hG ctxOf_ok (it_val hi hb hs) hst (fun a3 w3 _ hs3 => ?_) (fun e a' w' hne ht _ => absurd (tagOf_normal ht) hne)
      obtain ⟨hL, hn1, hn2, hn3⟩ := nextL_spec hi hb
      obtain ⟨t, ht⟩ : ∃ t, (nextL s i b).1 = t := ⟨_, rfl⟩
      obtain ⟨nx, hnx⟩ : ∃ nx, (nextL s i b).2 = nx := ⟨_, rfl⟩
      rw [ht, hnx] at hs3 hL
      rw [hnx] at hn1 hn2
      rw [ht, hnx] at hn3
      obtain ⟨γ3, M3, hs3⟩ := hs3
      obtain ⟨hH3, hC3, hK3, hsl3, hdf3, hnt3⟩ := Hold.back hs3
      refine wpIn_seq (wpIn_seq (wpIn_region ?_))
      rw [opsI_size]
      refine aopsK_get (C := ctxOf w3 M3 γ3 (oI body g (i : Int) (b : Int) s (mkRec fn tm D .ready none)) keepI 34 none []) (nt := 34) ctxOf_ok GI_env (mv_eq l s t body i b nx g _) trivial ⟨γ3, M3, hH3.lend hsl3 hdf3 hnt3⟩ (fun a4 w4 hs4 => ?_)
      obtain ⟨γ4, M4, hs4⟩ := hs4
      obtain ⟨hH4, hC4, hK4, hsl4, hdf4, hnt4⟩ := Hold.back hs4
      have hKK4 : Kept γ1 γ4 := (hI.kept.trans hK3).trans hK4
      have hCC4 := (hI.chg.trans hC3).trans hC4
      have hl4 := hKK4 1005 (by decide) _ hl
      obtain ⟨ts, ty, pos, aft, ho⟩ := y_op
      have e0 := ARel.clo0 (fn := .yield l) (hsl4 0)
      have e28 := ARel.clo0 (fn := .yield l) (hsl4 28)
      have r1 : ARel γ4 M4 (.ref 1001 0) (a4.tmps.getD 1 undef) := hsl4 1
      have r2 : ARel γ4 M4 (.ref 1002 0) (a4.tmps.getD 2 undef) := hsl4 2
      have r3 : ARel γ4 M4 (.ref 1003 0) (a4.tmps.getD 3 undef) := hsl4 3
      have r6 : ARel γ4 M4 (.p (.int .i64 (nx : Int))) (a4.tmps.getD 6 undef) := hsl4 6
      have r29 : ARel γ4 M4 (.p (.str t)) (a4.tmps.getD 29 undef) := hsl4 29
      have r30 : ARel γ4 M4 (.p (.int .i64 (nx : Int))) (a4.tmps.getD 30 undef) := hsl4 30
      refine ops_cons ho rfl (wpIn_yield (l := l) (r := mkRec fn tm D .ready none) e28 (hH4.raw_at lookO_hd hl4).1 rfl ?_)
      have hfold : (((mkRec fn tm D .ready none).params.zip ((#[.tmp 29, .tmp 30] : Array Operand).map a4.eval)).foldl (fun tmps (t, a) => tmps.setIfInBounds t a) (mkRec fn tm D .ready none).tmps) = (tm.setIfInBounds 35 (a4.tmps.getD 29 undef)).setIfInBounds 36 (a4.tmps.getD 30 undef) := by
        simp [mkRec, Act.eval]
      rw [hfold]
      refine RoundIn.mono (round_ok (fn := fn) (D := D) (tm := tm) hH4 hl4 (h7.ref_kept fun g hg => hKK4 7 (by decide) g hg) (h8.ref_kept fun g hg => hKK4 8 (by decide) g hg) r29 r30 hsz (by have := hI.gl; omega) (fun x hx => by have := hI.gx x hx; omega) (by omega)) ?_
      rintro e W' ⟨jump, γ5, M5, he, hj, hH5, hC5, hK5⟩
      refine ⟨_, he, ?_⟩
      obtain ⟨hg5, hx5⟩ := stp_g (nx := (nx : Int)) (body := body) (t := t) hn1 hI.gl hI.gx hn3
      obtain ⟨body5, hb5⟩ : ∃ x, (stp t (nx : Int) body g).2.1 = x := ⟨_, rfl⟩
      obtain ⟨g5, hg5'⟩ : ∃ x, (stp t (nx : Int) body g).2.2 = x := ⟨_, rfl⟩
      have hres := hI.res
      rw [hL] at hres
      rw [hg5'] at hg5 hx5
      rw [hb5, hg5'] at hH5 hC5
      have hput : ∀ k, k ≠ 31 → (a4.put (some 31) (.bool jump.isNone)).tmps.getD k undef = a4.tmps.getD k undef := by
        intro k hk
        show (a4.tmps.setIfInBounds 31 _).getD k undef = _
        rw [gset (by omega), if_neg (fun h => hk h.symm)]
      have hsl5 : ∀ t' : Nat, ARel γ5 M5 (Am.look t' AV.any [(0, .clo (.yield l) [] []), (1, .ref 1001 0), (2, .ref 1002 0), (3, .ref 1003 0), (6, .p (.int .i64 (nx : Int))), (31, .p (.bool jump.isNone))]) ((a4.put (some 31) (.bool jump.isNone)).tmps.getD t' undef) := by
        refine sl_cons ?_ (sl_cons ?_ (sl_cons ?_ (sl_cons ?_ (sl_cons ?_ (sl_cons ?_ sl_nil)))))
        · rw [hput 0 (by decide), e0]; exact clo0_mk
        · rw [hput 1 (by decide)]; exact r1.ref_kept fun g hg => hK5 1001 (by decide) g hg
        · rw [hput 2 (by decide)]; exact r2.ref_kept fun g hg => hK5 1002 (by decide) g hg
        · rw [hput 3 (by decide)]; exact r3.ref_kept fun g hg => hK5 1003 (by decide) g hg
        · rw [hput 6 (by decide)]; exact r6.p_any hC5.le
        · show ARel γ5 M5 _ ((a4.tmps.setIfInBounds 31 _).getD 31 undef)
          rw [gset (by omega), if_pos rfl]; exact .p _ _ (.bool _)
      obtain ⟨rec5, hrec5⟩ : ∃ x, mkRec fn tm D (if jump.isNone then .ready else .done) jump = x := ⟨_, rfl⟩
      rw [hrec5] at hH5 hC5
      refine aopsK_get (C := ctxOf W' M5 γ5 (oI body5 g5 (i : Int) (b : Int) s rec5) keepI 34 none []) (nt := 34) (l := [4]) (l2 := []) ctxOf_ok GI_env (not_eq l s body5 i b nx g5 jump.isNone rec5) trivial ⟨γ5, M5, hH5.lend hsl5 hdf4 (by show (a4.tmps.setIfInBounds 31 _).size = 34; simp; exact hnt4)⟩ (fun a6 w6 hs6 => ?_)
      obtain ⟨γ6, M6, hs6⟩ := hs6
      obtain ⟨hH6, hC6, hK6, hsl6, hdf6, hnt6⟩ := Hold.back hs6
      have hG6 : CfgOk GI Tryd.prog (ctxOf w6 M6 γ6 (oI body5 g5 (i : Int) (b : Int) s rec5) keepI 34 none []) := ⟨rfl, GI_env, GI_envR, ctxOf_ok, Checked.mixed Tryd.checked⟩
      have hst6 : St (ctxOf w6 M6 γ6 (oI body5 g5 (i : Int) (b : Int) s rec5) keepI 34 none []) (mkS [(0, .clo (.yield l) [] []), (1, .ref 1001 0), (2, .ref 1002 0), (3, .ref 1003 0), (6, .p (.int .i64 (nx : Int))), (32, .p (.bool (!jump.isNone)))] (oI body5 g5 (i : Int) (b : Int) s rec5)) a6 w6 := ⟨γ6, M6, hH6.lend hsl6 hdf6 hnt6⟩
      have hv := it2_eq l s body5 i b g5 nx (!jump.isNone) rec5
      cases jump with
      | none =>
        subst hrec5
        refine chain2 hG6 ctxOf_ok hv hst6 fun e a8 w8 ht8 hs8 => ?_
        have := tagOf_normal ht8
        subst this
        obtain ⟨γ8, M8, hs8⟩ := hs8
        obtain ⟨hH8, hC8, hK8, hsl8, hdf8, hnt8⟩ := Hold.back hs8
        refine ⟨b - nx, by omega, nx, body5, g5, γ8, M8, ⟨hH8, ((hCC4.trans hC5).trans hC6).trans hC8, ((hKK4.trans hK5).trans hK6).trans hK8, ?_, hn2, hg5, hx5, hsl8, hdf8, hnt8⟩, rfl⟩
        rw [gath_none hj, hb5, hg5'] at hres; exact hres
      | some c =>
        obtain ⟨hgs, hce⟩ := gath_some (i := i) (r := linesN s nx b) hj
        rw [hgs, hb5, hg5'] at hres
        refine chain2 hG6 ctxOf_ok hv hst6 fun e a8 w8 ht8 hs8 => ?_
        have := tagOf_ret ht8
        subst this
        obtain ⟨γ8, M8, hs8⟩ := hs8
        obtain ⟨hH8, hC8, hK8, hsl8, hdf8, hnt8⟩ := Hold.back hs8
        obtain ⟨v, hv'⟩ := res_I hs8
        subst hrec5
        subst hres
        exact ⟨hdf8, v, hv', ⟨v, rfl⟩, γ8, M8, (i : Int), .done, some c, hH8, ((hCC4.trans hC5).trans hC6).trans hC8, ((hKK4.trans hK5).trans hK6).trans hK8, .inr ⟨rfl, by rw [hce]⟩, Nat.le_trans hg5 hn2, fun x hx => Nat.le_trans (hx5 x hx) hn2⟩
    · refine chain3 hG ctxOf_ok (it_end hi) hst (fun a3 w3 h _ => by cases h) (fun e a' w' hne ht hs' => ?_)
      have := tagOf_exit (i := 0) ht
      subst this
      obtain ⟨γ8, M8, hs8⟩ := hs'
      obtain ⟨hH8, hC8, hK8, hsl8, hdf8, hnt8⟩ := Hold.back hs8
      obtain ⟨v, hv'⟩ := res_I hs8
      have hres := hI.res
      rw [linesN_nil (by omega)] at hres
      have hfin2 : fin = (g, body) := hres.symm
      subst hfin2
      have key : bodyPost Tryd.prog Tryd.f92 (fun e W2 => (∃ v, e = .returned v) ∧ IPost γ1 M1 W1 (oI (b : Int) [] (a : Int) (b : Int) s (mkRec fn tm D .ready none)) s b fn tm D (g, body) W2) .normal a' w' :=
        ⟨hdf8, v, hv', ⟨v, rfl⟩, γ8, M8, (i : Int), .ready, none, hH8, hI.chg.trans hC8, hI.kept.trans hK8, .inl ⟨rfl, rfl⟩, Nat.le_trans hI.gl hI.ib, fun x hx => Nat.le_trans (hI.gx x hx) hI.ib⟩
      exact ⟨key, key⟩
  · exact sl_cons (by rw [z0]; exact clo0_mk) (sl_cons (by rw [z1]; exact hp) (sl_cons (by rw [z2]; exact hq) (sl_cons (by rw [z3]; exact hr) sl_nil)))
  · exact z4
end Go.Proofs.YthfgklcdkehgjaaDoor
