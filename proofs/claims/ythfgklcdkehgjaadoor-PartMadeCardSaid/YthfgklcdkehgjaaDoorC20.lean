/-
  Lifted functions, and facts about them.
-/
import Derived.Test.YthfgklcdkehgjaaDoorRows
import Derived.Test.YthfgklcdkehgjaaDoorAmC
import Derived.Test.YthfgklcdkehgjaaDoorC01
import Derived.Test.YthfgklcdkehgjaaDoorC19
import Derived.Deep.Slices
import Derived.Carry
namespace Go.Proofs.YthfgklcdkehgjaaDoor
open Go Go.Am
set_option linter.unusedVariables false
/-! PartMade. -/
def mmT : List UInt8 := [109, 117, 108, 116, 105, 112, 97, 114, 116, 47, 109, 105, 120, 101, 100]
def madeV (e A : List UInt8) (l : List (List UInt8)) : List UInt8 := ((((LB_6bcf3b24 ++ e) ++ e) ++ A) ++ e) ++ blks e l []
theorem madeV_snoc (e A b : List UInt8) (l : List (List UInt8)) : madeV e A (l ++ [b]) = (((((((madeV e A l ++ mkL) ++ e) ++ xyL) ++ e) ++ e) ++ b) ++ e) := by
  unfold madeV
  rw [blks_cat, blks_app e l (blks e [b] []), blks, blks]
  simp only [List.append_assoc, List.append_nil, List.nil_append]
theorem madeV_end (e A z : List UInt8) (l : List (List UInt8)) : ((madeV e A l ++ enL) ++ e) ++ z = LB_6bcf3b24 ++ (e ++ ([] ++ (e ++ (A ++ (e ++ blks e l (enL ++ (e ++ z))))))) := by
  unfold madeV
  rw [blks_app e l (enL ++ (e ++ z))]
  simp only [List.append_assoc, List.nil_append]
theorem LBm_len : LB_6bcf3b24.length = 47 := rfl
theorem blks_len {e : List UInt8} (he : isNl e) : ∀ l : List (List UInt8), (∀ b ∈ l, b.length ≤ 300) → (blks e l []).length ≤ 320 * l.length
  | [], _ => by simp [blks]
  | b :: r, h => by
    have h1 := h b (by simp)
    have h2 := blks_len he r fun x hx => h x (List.mem_cons_of_mem _ hx)
    have h3 := nl_len he
    rw [blks]
    simp [mkL, xyL]; omega
theorem madeV_len {e A : List UInt8} (he : isNl e) (hA : A.length ≤ 300) (l : List (List UInt8)) (h : ∀ b ∈ l, b.length ≤ 300) : (madeV e A l).length ≤ 353 + 320 * l.length := by
  have h1 := blks_len he l h
  have h2 := nl_len he
  unfold madeV
  simp only [List.length_append, LBm_len]; omega
theorem okB_clean (s : List UInt8) : okB (cleanS s) := ⟨isLn_clean s, fun c h => (cleanS_ok s c h).1⟩
theorem made_tree {e A z : List UInt8} (he : isNl e) (hA : okB A) (bs : List (List UInt8)) (hb : ∀ b ∈ bs, okB b) (hl : bs.length ≤ 20) {s : List UInt8} (hs : s = LB_6bcf3b24 ++ (e ++ ([] ++ (e ++ (A ++ (e ++ blks e bs (enL ++ (e ++ z)))))))) : (treeT s).type = mmT ∧ kidsOk s bs (treeT s).kids := by
  have hel := nl_len he
  have hsp : splitS s 0 s.length = (fieldsS [LB_6bcf3b24], ((47 + 2 * e.length : Nat) : Int)) := by
    rw [whole_split]
    have hln : lnF [] 0 s = (0, LB_6bcf3b24, 0 + (LB_6bcf3b24.length + e.length)) :: (0 + (LB_6bcf3b24.length + e.length), [], 0 + (LB_6bcf3b24.length + e.length) + (([] : List UInt8).length + e.length)) :: lnF [] (0 + (LB_6bcf3b24.length + e.length) + (([] : List UInt8).length + e.length)) (A ++ (e ++ blks e bs (enL ++ (e ++ z)))) := by
      rw [hs, line_step he (isLn_of (by decide +kernel)), line_step he (isLn_of (by decide))]
    rw [hln]
    have hg : ∀ (a1 a2 a3 a4 : Nat) (L : List (Nat × List UInt8 × Nat)), gathS ((a1, LB_6bcf3b24, a2) :: (a3, [], a4) :: L) s.length [] = ([LB_6bcf3b24], (a4 : Int)) := by
      intro a1 a2 a3 a4 L
      rw [gathS, if_neg (by decide), if_neg (fun h => h.1 rfl), List.nil_append, gathS, if_pos rfl]
    rw [hg, LBm_len, List.length_nil, show 0 + (47 + e.length) + (0 + e.length) = 47 + 2 * e.length by omega]
  have h1 : oneP s 0 s.length = Part.mk mmT [([98, 111, 117, 110, 100, 97, 114, 121], zzM)] [55, 98, 105, 116] false 0 ((47 + 2 * e.length : Nat) : Int) s.length [] := by
    unfold oneP
    rw [hsp]
    have t1 : typeF (fieldsS [LB_6bcf3b24]) = (mmT, [([98, 111, 117, 110, 100, 97, 114, 121], zzM)]) := by kernel_rfl
    have t2 : encF (fieldsS [LB_6bcf3b24]) = [55, 98, 105, 116] := by kernel_rfl
    have t3 : attF (fieldsS [LB_6bcf3b24]) = false := by kernel_rfl
    dsimp only
    rw [t1, t2, t3]
  have h2 : markP s 0 s.length = zzM := by unfold markP; rw [h1]; kernel_rfl
  have hP : (LB_6bcf3b24 ++ (e ++ (e ++ (A ++ e)))).length = 47 + 3 * e.length + A.length := by simp only [List.length_append, LBm_len]; omega
  have hs2 : s = (LB_6bcf3b24 ++ (e ++ (e ++ (A ++ e)))) ++ blks e bs (enL ++ (e ++ z)) := by rw [hs]; simp only [List.append_assoc, List.nil_append]
  have h3 : spansP s 0 s.length = (spn e (47 + 3 * e.length + A.length) bs).map spanI := by
    unfold spansP spansI spansN
    rw [h2, h1]
    show (spF s ([45, 45] ++ zzM) ((s.length : Int)).toNat (linesN s ((47 + 2 * e.length : Nat) : Int).toNat ((s.length : Int)).toNat) none []).map spanI = _
    rw [Int.toNat_natCast, Int.toNat_natCast]
    have hs3 : s = (LB_6bcf3b24 ++ (e ++ e)) ++ ((A ++ (e ++ blks e bs (enL ++ (e ++ z)))) ++ []) := by rw [hs]; simp only [List.append_assoc, List.nil_append, List.append_nil]
    have hq : (LB_6bcf3b24 ++ (e ++ e)).length = 47 + 2 * e.length := by simp only [List.length_append, LBm_len]; omega
    have hsl : s.length = (LB_6bcf3b24 ++ (e ++ e)).length + (A ++ (e ++ blks e bs (enL ++ (e ++ z)))).length := by
      have := congrArg List.length hs3
      rw [List.append_nil, List.length_append] at this; exact this
    have hm := mid_lines (Q := LB_6bcf3b24 ++ (e ++ e)) (M := A ++ (e ++ blks e bs (enL ++ (e ++ z)))) (T := [])
    rw [← hs3, ← hsl, hq] at hm
    rw [hm, line_step he hA.1]
    obtain ⟨n1, n2⟩ := not_mark (m := zzM) (by decide) hA.2
    rw [spF, if_neg n1, if_neg n2]
    have := spF_blks (z := z) (s := s) he s.length bs (LB_6bcf3b24 ++ (e ++ (e ++ (A ++ e)))) none [] hb hs2 (fun o h => by cases h)
    rw [hP] at this
    rw [show 47 + 2 * e.length + (A.length + e.length) = 47 + 3 * e.length + A.length by omega, this]
    rfl
  have h4 : treeT s = withKids (oneP s 0 s.length) (kidsP 1 (treeP 1 s 5) (spansP s 0 s.length) ((0 : Int) + 1)).1 := by
    unfold treeT
    rw [show (6 - (0 : Int)).toNat = 5 + 1 from rfl, treeP, if_neg (by rw [h2]; decide)]
  rw [h4]
  refine ⟨by unfold withKids; rw [h1]; rfl, ?_⟩
  show kidsOk s bs (kidsP 1 (treeP 1 s 5) (spansP s 0 s.length) ((0 : Int) + 1)).1
  rw [h3, ← hP]
  exact kids_blks he 4 _ bs _ _ hs2 (by omega)
theorem kidsOk_len {s : List UInt8} : ∀ (l : List (List UInt8)) (k : List Part), kidsOk s l k → l.length = k.length
  | [], [], _ => rfl
  | _ :: r, _ :: q, h => by rw [List.length_cons, List.length_cons, kidsOk_len r q h.2]
theorem BPartMade_7_spec (F : Nat) (bs : List (List UInt8)) (s z1 : List UInt8) (z2 : List (List UInt8 × List UInt8)) (z3 : List UInt8) (z4 : Bool) (z5 z6 z7 : Int) (ks : List Part) (hl : bs.length ≤ 20) (hb : ∀ b ∈ bs, b.length ≤ 300) : ∀ (r : List (List UInt8)) (q : List Part) (fu i : Nat), bs.drop i = r → ks.drop i = q → kidsOk s (r.map cleanS) q → r.length < fu → i ≤ bs.length →
    BPartMade_7 F fu bs s (i : Int) z1 z2 z3 z4 z5 z6 z7 ks = some (.p (.bool true), []) := by
  intro r
  induction r with
  | nil =>
    intro q fu i hd hk ho hf hi
    have : i = bs.length := by have := congrArg List.length hd; simp at this; omega
    cases fu with
    | zero => omega
    | succ fu => rw [BPartMade_7_eq]; exact cond_f (by simp; omega) rfl
  | cons b r ih =>
    intro q fu i hd hk ho hf hi
    obtain ⟨h1, h2, h3⟩ := dropG hd []
    cases q with
    | nil => exact ho.elim
    | cons k q =>
      obtain ⟨g1, g2, g3⟩ := dropG hk (dfl .part)
      obtain ⟨⟨o1, o2, o3, o4, o5, o6⟩, ho⟩ := ho
      have hbl := hb b (by rw [← h1]; exact getD_mem h3 _)
      cases fu with
      | zero => omega
      | succ fu =>
        rw [BPartMade_7_eq, Int.toNat_natCast, g1, h1]
        refine cond_t (by simp; omega) (need_mk ⟨by omega, by omega⟩ (need_mk (fun _ => ⟨o1, o2, o3⟩) (need_mk (fun _ => ⟨by omega, by omega⟩) (need_mk (fun _ => by omega) ?_))))
        rw [BPartMade_8_eq]
        refine cond_f ?_ (need_mk (by unfold i64ok; omega) ?_)
        · rw [o4, o5, o6]
          simp [textP]; omega
        · rw [show (i : Int) + 1 = ((i + 1 : Nat) : Int) by omega]
          exact ih q fu (i + 1) h2 g2 ho (by simp at hf; omega) (by omega)
theorem BPartMade_3_spec (F : Nat) (hF : 1000 ≤ F) (bs : List (List UInt8)) (a z e : List UInt8) (he : isNl e) (hl : bs.length ≤ 20) (ha : a.length ≤ 300) (hz : z.length ≤ 300) : ∀ (r : List (List UInt8)) (fu i : Nat), bs.drop i = r → r.length < fu → i ≤ bs.length → (∀ b ∈ bs.take i, b.length ≤ 300) →
    BPartMade_3 F fu bs z e (madeV e (cleanS a) ((bs.take i).map cleanS)) (i : Int) = some (.p (.bool true), []) := by
  have hel := nl_len he
  intro r
  induction r with
  | nil =>
    intro fu i hd hf hi hb
    have hiL : i = bs.length := by have := congrArg List.length hd; simp at this; omega
    rw [hiL, List.take_length] at hb ⊢
    have hml := madeV_len (A := cleanS a) he (by rw [cleanS_len]; omega) (bs.map cleanS) (fun x hx => by obtain ⟨y, hy, rfl⟩ := List.mem_map.1 hx; rw [cleanS_len]; exact hb y hy)
    rw [List.length_map] at hml
    cases fu with
    | zero => omega
    | succ fu =>
      have hen : enL.length = 9 := rfl
      have hzl := cleanS_len z
      have hend := madeV_end e (cleanS a) (cleanS z) (bs.map cleanS)
      obtain ⟨s, hs⟩ : ∃ s, ((madeV e (cleanS a) (bs.map cleanS) ++ enL) ++ e) ++ cleanS z = s := ⟨_, rfl⟩
      rw [hs] at hend
      have hsl : s.length ≤ 100000 := by rw [← hs]; simp only [List.length_append]; omega
      obtain ⟨t1, t2⟩ := made_tree (z := cleanS z) he (okB_clean a) (bs.map cleanS) (fun x hx => by obtain ⟨y, hy, rfl⟩ := List.mem_map.1 hx; exact okB_clean y) (by rw [List.length_map]; omega) hend
      have hkl := kidsOk_len _ _ t2
      rw [List.length_map] at hkl
      rw [BPartMade_3_eq]
      refine cond_f (by simp) (need_mk (by unfold lenok; show _ + enL.length ≤ _; omega) (need_mk (by unfold lenok; show (_ ++ enL).length + _ ≤ _; simp only [List.length_append]; omega) (need_mk (by omega) (need_mk (by unfold lenok; show ((_ ++ enL) ++ _).length + _ ≤ _; simp only [List.length_append]; omega) (need_mk ?_ ?_)))))
      · show (((madeV e (cleanS a) (bs.map cleanS) ++ enL) ++ e) ++ cleanS z).length ≤ _
        rw [hs]; omega
      · show BPartMade_5 F bs (((madeV e (cleanS a) (bs.map cleanS) ++ enL) ++ e) ++ cleanS z) (treeT (((madeV e (cleanS a) (bs.map cleanS) ++ enL) ++ e) ++ cleanS z)).type (treeT (((madeV e (cleanS a) (bs.map cleanS) ++ enL) ++ e) ++ cleanS z)).params (treeT (((madeV e (cleanS a) (bs.map cleanS) ++ enL) ++ e) ++ cleanS z)).enc (treeT (((madeV e (cleanS a) (bs.map cleanS) ++ enL) ++ e) ++ cleanS z)).attach (treeT (((madeV e (cleanS a) (bs.map cleanS) ++ enL) ++ e) ++ cleanS z)).head (treeT (((madeV e (cleanS a) (bs.map cleanS) ++ enL) ++ e) ++ cleanS z)).frm (treeT (((madeV e (cleanS a) (bs.map cleanS) ++ enL) ++ e) ++ cleanS z)).til (treeT (((madeV e (cleanS a) (bs.map cleanS) ++ enL) ++ e) ++ cleanS z)).kids = _
        rw [hs, BPartMade_5_eq, BPartMade_6_eq]
        refine cond_f (by rw [t1, ← hkl]; simp [mmT]) ?_
        exact BPartMade_7_spec F bs s _ _ _ _ _ _ _ _ hl hb bs _ F 0 rfl rfl t2 (by omega) (by omega)
  | cons b r ih =>
    intro fu i hd hf hi hb
    obtain ⟨h1, h2, h3⟩ := dropG hd []
    have hml := madeV_len (A := cleanS a) he (by rw [cleanS_len]; omega) ((bs.take i).map cleanS) (fun x hx => by obtain ⟨y, hy, rfl⟩ := List.mem_map.1 hx; rw [cleanS_len]; exact hb y hy)
    rw [List.length_map, List.length_take, Nat.min_eq_left hi] at hml
    have htk : bs.take (i + 1) = bs.take i ++ [b] := by
      rw [List.take_succ_eq_append_getElem h3]
      have : bs[i] = b := by rw [← h1, List.getD_eq_getElem?_getD, List.getElem?_eq_getElem h3]; rfl
      rw [this]
    cases fu with
    | zero => omega
    | succ fu =>
      rw [BPartMade_3_eq, Int.toNat_natCast, h1]
      refine cond_t (by simp; omega) (need_mk ⟨by omega, by omega⟩ ?_)
      by_cases hbl : (b.length : Int) > 300
      · exact cond_t (by simpa using hbl) rfl
      · have nxt := ih fu (i + 1) h2 (by simp at hf; omega) (by omega) (by
          rw [htk]
          intro x hx
          rcases List.mem_append.1 hx with hx | hx
          · exact hb x hx
          · rw [List.mem_singleton.1 hx]; omega)
        rw [htk, List.map_append, List.map_cons, List.map_nil, madeV_snoc] at nxt
        have hmk : mkL.length = 8 := rfl
        have hxy : xyL.length = 4 := rfl
        have hcb := cleanS_len b
        obtain ⟨V, hV⟩ : ∃ V, madeV e (cleanS a) ((bs.take i).map cleanS) = V := ⟨_, rfl⟩
        rw [hV] at hml nxt ⊢
        have ok : ∀ x : Nat, x ≤ 10000 → lenok x := fun x hx => by unfold lenok; omega
        refine cond_f (by simpa using hbl) (need_mk (ok _ ?_) (need_mk (ok _ ?_) (need_mk (ok _ ?_) (need_mk (ok _ ?_) (need_mk (ok _ ?_) (need_mk ⟨by omega, by omega⟩ (need_mk (by omega) (need_mk (ok _ ?_) (need_mk (ok _ ?_) ?_)))))))))
        · simp; omega
        · simp; omega
        · simp; omega
        · simp; omega
        · simp; omega
        · simp; omega
        · simp; omega
        · rw [BPartMade_4_eq]
          refine need_mk (by unfold i64ok; omega) ?_
          rw [show (i : Int) + 1 = ((i + 1 : Nat) : Int) by omega]
          exact nxt
theorem PartMade_true (bs : List (List UInt8)) (a z : List UInt8) (nl : Bool) : FPartMade 1000 bs a z nl = some (.p (.bool true), []) := by
  rw [FPartMade_eq, BPartMade_1_eq]
  by_cases h : ((bs.length : Int) > 20 ∨ (a.length : Int) > 300) ∨ (z.length : Int) > 300
  · exact cond_t (by simp only [Bool.or_eq_true, decide_eq_true_eq]; exact h) rfl
  · have h2 : ∀ e, isNl e → BPartMade_2 1000 bs a z e = some (.p (.bool true), []) := by
      intro e he
      have hel := nl_len he
      have hal := cleanS_len a
      have ok : ∀ x : Nat, x ≤ 10000 → lenok x := fun x hx => by unfold lenok; omega
      have hLB := LBm_len
      rw [BPartMade_2_eq]
      refine need_mk (ok _ (by omega)) (need_mk (ok _ ?_) (need_mk (by omega) (need_mk (ok _ ?_) (need_mk (ok _ ?_) ?_))))
      · simp; omega
      · simp; omega
      · simp; omega
      · have := BPartMade_3_spec 1000 (by omega) bs a z e he (by omega) (by omega) (by omega) bs 1000 0 rfl (by omega) (by omega) (by simp)
        rw [List.take_zero, List.map_nil] at this
        unfold madeV at this
        rw [blks, List.append_nil] at this
        exact this
    refine cond_f (by simp only [Bool.or_eq_false_iff, decide_eq_false_iff_not]; omega) ?_
    cases nl with
    | true => exact cond_t rfl (h2 _ (.inr rfl))
    | false => exact cond_f rfl (h2 _ (.inl rfl))
end Go.Proofs.YthfgklcdkehgjaaDoor
/-! Slices among the arguments of a row. -/
namespace Go.Am
open Go Go.RowKit Go.ChangeShapes Go.WideShapes

def memOf (w : World) : Mem := fun b o => w.cell? ⟨b, o, none⟩
theorem memOf_ok (w : World) : MOk (memOf w) w := fun _ _ _ h => h

/-- Types whose cells say a code's datum; the fields of a struct from an offset on. -/
inductive EcX (P : Program) : Ec → TypeId ⊕ (List Field × Nat) → Prop
  | bool {t : TypeId} (h : P.underlying t = some .bool) : EcX P .bool (.inl t)
  | int {k : IntKind} {t : TypeId} (h : P.underlying t = some (.int k)) : EcX P (.int k) (.inl t)
  | str {t : TypeId} (h : P.underlying t = some .string) : EcX P .str (.inl t)
  | struct {t : TypeId} {fs : Array Field} {l : List Field} {c : Ec} (h : P.underlying t = some (.struct fs)) (hl : fs.toList = l) (hc : P.cellsOf t = wid c) (hf : EcX P c (.inr (l, 0))) : EcX P c (.inl t)
  | last {c : Ec} {f : Field} {o : Nat} (ho : f.offset = o) (hc : P.cellsOf f.type = wid c) (h : EcX P c (.inl f.type)) : EcX P c (.inr ([f], o))
  | cons {a b : Ec} {f : Field} {fs : List Field} {o o2 : Nat} (ho : f.offset = o) (hc : P.cellsOf f.type = wid a) (h : EcX P a (.inl f.type)) (h2 : o2 = o + wid a) (hr : EcX P b (.inr (fs, o2))) : EcX P (.pair a b) (.inr (f :: fs, o))

/-- The lengths of the texts in a datum. -/
def lensB : (c : Ec) → Elt c → List Nat
  | .str, x => [List.length (α := UInt8) x]
  | .pair a b, x => lensB a x.1 ++ lensB b x.2
  | _, _ => []

section
variable {H : Type} {enc : TypeId × Value → H} {P : Program} {w : World} {spare : Nat → Bool} {held : Bool} {M : Mem}

theorem weightsEach_mem : ∀ {ts : List TypeId} {ds : List (DataW H)} {i : Nat} {t : TypeId} {d : DataW H} {n : Nat}, ts[i]? = some t → ds[i]? = some d → n ∈ d.weights P t → n ∈ DataW.weightsEach P ts ds
  | [], _, _, _, _, _, h, _, _ => by simp at h
  | _ :: _, [], _, _, _, _, _, h, _ => by simp at h
  | u :: ts, e :: ds, 0, t, d, n, h1, h2, h3 => by
    simp at h1 h2; subst h1; subst h2
    rw [DataW.weightsEach]; exact List.mem_append_left _ h3
  | u :: ts, e :: ds, i + 1, t, d, n, h1, h2, h3 => by
    rw [DataW.weightsEach]; exact List.mem_append_right _ (weightsEach_mem (by simpa using h1) (by simpa using h2) h3)
theorem weightsAll_mem {e : TypeId} : ∀ {ds : List (DataW H)} {d : DataW H} {n : Nat}, d ∈ ds → n ∈ d.weights P e → n ∈ DataW.weightsAll P e ds
  | [], _, _, h, _ => by cases h
  | d' :: ds, d, n, h, hn => by
    rw [DataW.weightsAll]
    rcases List.mem_cons.1 h with h | h
    · subst h; exact List.mem_append_left _ hn
    · exact List.mem_append_right _ (weightsAll_mem h hn)

theorem open_ec {c : Ec} {x : TypeId ⊕ (List Field × Nat)} (h : EcX P c x) : match x with
  | .inl t => ∀ (fuel : Nat) (cs : List Value) (y : DataW H × List MemPlace), DataW.trod enc P w 0 spare held fuel t cs = some y → ∃ d : Elt c, (∀ j, j < wid c → PRel M (cell c d j) (cs.getD j undef)) ∧ ∀ n ∈ lensB c d, n ∈ y.1.weights P t
  | .inr (fs, o) => ∀ (fuel : Nat) (cs : List Value), (∀ f ∈ fs, ∃ y, DataW.trod enc P w 0 spare held fuel f.type ((cs.drop f.offset).take (P.cellsOf f.type)) = some y) →
      ∃ d : Elt c, (∀ j, j < wid c → PRel M (cell c d j) (cs.getD (o + j) undef)) ∧ ∀ n ∈ lensB c d, ∃ f ∈ fs, ∃ y, DataW.trod enc P w 0 spare held fuel f.type ((cs.drop f.offset).take (P.cellsOf f.type)) = some y ∧ n ∈ y.1.weights P f.type := by
  induction h with
  | bool h =>
    intro fuel cs y hy
    obtain ⟨b, rfl, _⟩ := DataW.trod_bool h hy
    exact ⟨b, fun j hj => by have : j = 0 := by (have := hj; simp only [wid] at this; omega)
                             subst this; exact .bool b, fun n hn => by cases hn⟩
  | int h =>
    intro fuel cs y hy
    obtain ⟨n, rfl, _, hw⟩ := DataW.trod_int h hy
    exact ⟨n, fun j hj => by have : j = 0 := by (have := hj; simp only [wid] at this; omega)
                             subst this; exact .int _ n (has_wf hw), fun n hn => by cases hn⟩
  | str h =>
    intro fuel cs y hy
    obtain ⟨s, rfl, hy', hw⟩ := DataW.trod_string h hy
    refine ⟨s.data.toList, fun j hj => by have : j = 0 := by (have := hj; simp only [wid] at this; omega)
                                          subst this; exact .str s.data.toList (by rw [Array.length_toList]; exact hw), fun n hn => ?_⟩
    subst hy'
    rw [DataW.weights]; exact hn
  | struct h hl hc hf ih =>
    intro fuel cs y hy
    obtain ⟨xs, n, rfl, hy', hlen, hxs, hall⟩ := DataW.trod_struct h hy
    rename_i t fs l c
    have hgo : ∀ f ∈ l, ∃ (i : Nat) (hi : i < xs.length), fs.toList[i]? = some f ∧ DataW.trod enc P w 0 spare held n f.type ((cs.drop f.offset).take (P.cellsOf f.type)) = some xs[i] := fun f hf => by
      rw [← hl] at hf
      obtain ⟨i, hi⟩ := List.getElem?_of_mem hf
      have hi' := hi
      rw [Array.getElem?_toList] at hi'
      have hlt : i < xs.length := by
        rw [hxs]
        have := (List.getElem?_eq_some_iff.1 hi).1
        simpa using this
      have := hall i f hi'
      rw [List.getElem?_eq_getElem hlt] at this
      exact ⟨i, hlt, hi, this⟩
    obtain ⟨d, hd, hw⟩ := ih n cs fun f hf => by
      obtain ⟨i, hi, _, h2⟩ := hgo f hf
      exact ⟨_, h2⟩
    refine ⟨d, fun j hj => by have := hd j hj; rwa [Nat.zero_add] at this, fun k hk => ?_⟩
    obtain ⟨f, hf, y2, h2, h3⟩ := hw k hk
    obtain ⟨i, hi, h4, h5⟩ := hgo f hf
    rw [h5] at h2; cases h2
    subst hy'
    rw [DataW.weights, h]
    refine weightsEach_mem (i := i) (t := f.type) (d := xs[i].1) ?_ ?_ h3
    · rw [List.getElem?_map, h4]; rfl
    · rw [List.getElem?_map, List.getElem?_eq_getElem hi]; rfl
  | last ho hc h ih =>
    intro fuel cs hall
    obtain ⟨y, hy⟩ := hall _ (List.mem_singleton.2 rfl)
    obtain ⟨d, hd, hw⟩ := ih fuel _ y hy
    refine ⟨d, fun j hj => ?_, fun n hn => ⟨_, List.mem_singleton.2 rfl, y, hy, hw n hn⟩⟩
    have := hd j hj
    rw [List.getD_eq_getElem?_getD, List.getElem?_take_of_lt (by rw [hc]; exact hj), List.getElem?_drop, ho, ← List.getD_eq_getElem?_getD] at this
    exact this
  | cons ho hc h h2 hr ih ihr =>
    intro fuel cs hall
    obtain ⟨y, hy⟩ := hall _ (List.mem_cons_self ..)
    obtain ⟨d, hd, hw⟩ := ih fuel _ y hy
    obtain ⟨d2, hd2, hw2⟩ := ihr fuel cs fun f hf => hall f (List.mem_cons_of_mem _ hf)
    rename_i a b f fs o o2
    refine ⟨(d, d2), fun j hj => ?_, fun n hn => ?_⟩
    · simp only [cell]
      cases hlt : Nat.blt j (wid a) with
      | true =>
        have hlt : j < wid a := Nat.le_of_ble_eq_true hlt
        have := hd j hlt
        rw [List.getD_eq_getElem?_getD, List.getElem?_take_of_lt (by rw [hc]; exact hlt), List.getElem?_drop, ho, ← List.getD_eq_getElem?_getD] at this
        exact this
      | false =>
        have hge : wid a ≤ j := by
          rcases Nat.lt_or_ge j (wid a) with h5 | h5
          · have : Nat.blt j (wid a) = true := Nat.ble_eq_true_of_le h5
            rw [this] at hlt; cases hlt
          · exact h5
        have hj' : j < wid a + wid b := hj
        have := hd2 (j - wid a) (by omega)
        rw [h2, show o + wid a + (j - wid a) = o + j by omega] at this
        exact this
    · rcases List.mem_append.1 hn with hn | hn
      · exact ⟨f, List.mem_cons_self .., y, hy, hw n hn⟩
      · obtain ⟨f', hf', y', h1, h2⟩ := hw2 n hn
        exact ⟨f', List.mem_cons_of_mem _ hf', y', h1, h2⟩

theorem spot_add {b off n : Nat} : (⟨b, off, none⟩ : Addr).add n = ⟨b, off + n, none⟩ := by
  unfold Addr.add
  split
  · rename_i h; subst h; rfl
  · rfl

theorem okWide_spot {r : Reach} {b0 : Nat} {t e : TypeId} {a : Addr} {len cap : Nat} (ht : P.underlying t = some (.slice e)) (h : Value.okWide P w r b0 t (.slice (some a) len cap)) : a.spot = none := by
  unfold Value.okWide at h
  rw [ht] at h
  simp only [Cell.okWide, Cell.ok, ht] at h
  exact h.2.2.2.1

theorem open_list {r : Reach} {b0 : Nat} {t e : TypeId} {a : Ec} {v : Value} {d : DataW H} {ps : List MemPlace} (ht : P.underlying t = some (.slice e)) (hc : P.cellsOf e = wid a) (ha : EcX P a (.inl e))
    (hval : Value.okWide P w r b0 t v) (hd : DataW.Trod enc P w 0 spare held t v d ps) : ∃ l : List (Elt a), ARel γ0 (memOf w) (.p (.list (wid a) (.dat a l))) v ∧ (∀ x ∈ l, ∀ n ∈ lensB a x, n ∈ d.weights P t) ∧ (l ≠ [] → ∃ m, l.length ≤ m ∧ m * P.bytesOf e ∈ d.weights P t) := by
  obtain ⟨a0, len, cap, rfl⟩ := okWide_slice ht hval
  obtain ⟨fuel, hf⟩ := hd
  rcases Go.Deep.open_slice ht hf with ⟨h0, _⟩ | ⟨q, len', cap', m, n, D, Pl, h0, hb, hl, hm, hmm, hdd, hx⟩
  · simp only [Value.cells, List.cons.injEq, Value.slice.injEq, and_true] at h0
    obtain ⟨rfl, rfl, rfl⟩ := h0
    exact ⟨[], .p _ _ (.listNil _ _ rfl), fun x hx => (by cases hx), fun h => absurd rfl h⟩
  · simp only [Value.cells, List.cons.injEq, Value.slice.injEq, and_true] at h0
    obtain ⟨rfl, rfl, rfl⟩ := h0
    have hspot := okWide_spot ht hval
    obtain ⟨bl, off, sp⟩ := q
    dsimp only at hspot
    subst hspot
    have hlm : len ≤ m := by rw [hmm]; split <;> omega
    obtain ⟨cs, hcs⟩ := Go.Deep.choose_lt (α := List Value) (p := fun i cs' => w.cells? 0 ((⟨bl, off, none⟩ : Addr).add (i * P.cellsOf e)) (P.cellsOf e) = some cs' ∧ DataW.trod enc P w 0 spare held n e cs' = some (D i, Pl i)) hx
    have hex : ∀ i, i < m → ∃ d : Elt a, (∀ j, j < wid a → PRel (memOf w) (cell a d j) ((cs i).getD j undef)) ∧ ∀ k ∈ lensB a d, k ∈ (D i).weights P e := fun i hi => open_ec ha n (cs i) _ (hcs i hi).2
    letI : Inhabited (Elt a) := ⟨dfl a⟩
    obtain ⟨E, hE⟩ := Go.Deep.choose_lt hex
    have hlen : ((List.range len).map E).length = len := by simp
    have hd1 : d = .slice ((List.range len).map D) ((List.range (m - len)).map fun j => D (len + j)) := congrArg Prod.fst hdd
    have hwd : d.weights P t = (((List.range len).map D).length + ((List.range (m - len)).map fun j => D (len + j)).length) * P.bytesOf e :: (DataW.weightsAll P e ((List.range len).map D) ++ DataW.weightsAll P e ((List.range (m - len)).map fun j => D (len + j))) := by
      rw [hd1, DataW.weights, ht]
    refine ⟨(List.range len).map E, ?_, fun x hx k hk => ?_, fun _ => ⟨_, ?_, by rw [hwd]; exact List.mem_cons_self ..⟩⟩
    rotate_left
    · obtain ⟨i, hi, rfl⟩ := List.mem_map.1 hx
      have hi := List.mem_range.1 hi
      rw [hwd]
      refine List.mem_cons_of_mem _ (List.mem_append_left _ (weightsAll_mem (d := D i) (List.mem_map.2 ⟨i, List.mem_range.2 hi, rfl⟩) ((hE i (by omega)).2 k hk)))
    · simp
    have hget : ∀ i, i < len → ((List.range len).map E).getD i (dfl a) = E i := fun i hi => by
      rw [List.getD_eq_getElem?_getD, List.getElem?_map, List.getElem?_range hi]; rfl
    have key : PRel (memOf w) (.list (wid a) (.dat a ((List.range len).map E))) (.slice (some ⟨bl, off, none⟩) (Rows.dat a ((List.range len).map E)).n cap) := by
      refine .list _ _ bl off cap (fun i j => (cs i).getD j undef) ?_ ?_ (fun i j hi hj => ?_) (fun i j hi hj => ?_)
      · show ((List.range len).map E).length ≤ maxLen
        rw [hlen]; exact Nat.le_trans hl hm
      · show ((List.range len).map E).length ≤ cap
        rw [hlen]; exact hl
      · have hi' : i < len := by have : i < ((List.range len).map E).length := hi
                                 rwa [hlen] at this
        obtain ⟨_, h2, h3⟩ := World.cells?_some (hcs i (by omega)).1
        have := h3 j (by rw [hc]; exact hj)
        rw [spot_add, spot_add, hc] at this
        show w.cell? ⟨bl, off + i * wid a + j, none⟩ = _
        rw [this, List.getD_eq_getElem?_getD, List.getElem?_eq_getElem (by rw [h2, hc]; exact hj)]
        rfl
      · have hi' : i < len := by have : i < ((List.range len).map E).length := hi
                                 rwa [hlen] at this
        show PRel _ (cell a (((List.range len).map E).getD i (dfl a)) j) _
        rw [hget i hi']
        exact (hE i (by omega)).1 j hj
    have hn : (Rows.dat a ((List.range len).map E)).n = len := hlen
    rw [hn] at key
    exact .p _ _ key
end

theorem walk_of_FnP2 {P : Program} {f : FuncId} {args : List AV} (h : FnP P f args (.p (.bool true))) {vs : List Value} (w : World) (hv : ARels γ0 (memOf w) args vs) :
    Calls P f vs.toArray w fun e w' => e = .returned (.bool true) ∧ Below w.heap.size w w' := by
  refine (h (memOf w) w vs (memOf_ok w) hv).mono fun e w' ⟨v, M', he, _, _, _, hr, hb⟩ => ?_
  rw [hr.bool_inv] at he
  exact ⟨he, hb⟩
theorem str_argM (M : Mem) (a : ByteArray) (h : a.size ≤ maxLen) : ARel γ0 M (.p (.str a.data.toList)) (.string a) :=
  .p _ _ (.str a.data.toList (by rw [Array.length_toList]; exact h))
theorem bool_argM (M : Mem) (b : Bool) : ARel γ0 M (.p (.bool b)) (.bool b) := .p _ _ (.bool b)
end Go.Am
