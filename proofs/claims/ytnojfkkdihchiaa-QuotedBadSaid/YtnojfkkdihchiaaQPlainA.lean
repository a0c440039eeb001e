/-
  A lifted function, or a fact about one.
-/
import Derived.Test.YtnojfkkdihchiaaQDecode
import Derived.Test.YtnojfkkdihchiaaQPlain
import Derived.Test.YtnojfkkdihchiaaQEncode
import Derived.Test.YtnojfkkdihchiaaQQuoted
/-! What the lifted loops compute. -/
namespace Go.Proofs.Ytnojfkkdihchiaa
open Go Go.Am

theorem drop_cons {s : List UInt8} {i : Nat} {c : UInt8} {r : List UInt8} (h : s.drop i = c :: r) : s.getD i 0 = c ∧ s.drop (i + 1) = r ∧ s.length = i + 1 + r.length := by
  have h1 : s[i]? = some c := by
    have : (s.drop i)[0]? = some c := by rw [h]; rfl
    simpa using this
  refine ⟨by rw [List.getD_eq_getElem?_getD, h1]; rfl, ?_, ?_⟩
  · have : (s.drop i).drop 1 = r := by rw [h]; rfl
    simpa [List.drop_drop] using this
  · have := congrArg List.length h
    simp at this
    have : i < s.length := by
      rcases Nat.lt_or_ge i s.length with h' | h'
      · exact h'
      · rw [List.drop_of_length_le h'] at h; cases h
    omega
theorem u8_back (c : UInt8) : UInt8.ofNat ((c.toNat : Int)).toNat = c := by simp
theorem u8_eq {c d : UInt8} : ((c.toNat : Int) = (d.toNat : Int)) ↔ c = d := by
  constructor
  · intro h; exact UInt8.toNat_inj.1 (by omega)
  · rintro rfl; rfl
theorem u8_lt (c : UInt8) : (c.toNat : Int) < 256 := by have := c.toNat_lt; omega

def hexB (x y : UInt8) : UInt8 := UInt8.ofNat (16 * digitS x.toNat + digitS y.toNat).toNat
def isHex (x : UInt8) : Prop := 0 ≤ digitS x.toNat
instance (x : UInt8) : Decidable (isHex x) := inferInstanceAs (Decidable (0 ≤ digitS x.toNat))

def decS : List UInt8 → List UInt8
  | [] => []
  | c :: r => if c ≠ 61 then c :: decS r else
    match r with
    | x :: y :: t => if isHex x ∧ isHex y then hexB x y :: decS t else if x = 10 then decS (y :: t) else if x = 13 ∧ y = 10 then decS t else 61 :: decS (x :: y :: t)
    | [x] => if x = 10 then [] else 61 :: decS [x]
    | [] => [61]
termination_by l => l.length
decreasing_by all_goals (simp; try omega)

theorem decS_nil : decS [] = [] := by rw [decS.eq_def]
theorem decS_ne {c : UInt8} (h : c ≠ 61) (r : List UInt8) : decS (c :: r) = c :: decS r := by rw [decS.eq_def]; simp [h]
theorem decS_1 : decS [61] = [61] := by rw [decS.eq_def]; simp
theorem decS_2 (x : UInt8) : decS [61, x] = if x = 10 then [] else 61 :: decS [x] := by rw [decS.eq_def]; simp
theorem decS_3 (x y : UInt8) (t : List UInt8) : decS (61 :: x :: y :: t) = if isHex x ∧ isHex y then hexB x y :: decS t else if x = 10 then decS (y :: t) else if x = 13 ∧ y = 10 then decS t else 61 :: decS (x :: y :: t) := by
  rw [decS.eq_def]; simp

theorem digitS_lt (c : Int) : digitS c < 16 ∧ -1 ≤ digitS c := by unfold digitS; split <;> (try split) <;> (try split) <;> omega

theorem or_digits {a b : Int} (ha : 0 ≤ a) (ha2 : a < 16) (hb : 0 ≤ b) (hb2 : b < 16) : IntKind.u8.wrap (ibits .or .i64 (IntKind.i64.wrap (a * 2 ^ (min ((4 : Int)).toNat 64))) b) = 16 * a + b := by
  obtain ⟨x, rfl⟩ := Int.eq_ofNat_of_zero_le ha
  obtain ⟨y, rfl⟩ := Int.eq_ofNat_of_zero_le hb
  have hx : x < 16 := by omega
  have hy : y < 16 := by omega
  have : ∀ x : Fin 16, ∀ y : Fin 16, IntKind.u8.wrap (ibits .or .i64 (IntKind.i64.wrap (((x.val : Nat) : Int) * 2 ^ (min ((4 : Int)).toNat 64))) ((y.val : Nat) : Int)) = 16 * ((x.val : Nat) : Int) + ((y.val : Nat) : Int) := by decide
  exact this ⟨x, hx⟩ ⟨y, hy⟩

theorem BDecode_eq (fuel : Nat) (s : List UInt8) (hs : s.length ≤ 1000000) : ∀ (f i : Nat) (b : List UInt8), s.length < f + i → i ≤ s.length → b.length ≤ i →
    BDecode_1 fuel f s (i : Int) b = some (b ++ decS (s.drop i)) := by
  intro f
  induction f with
  | zero => intro i b h1 h2; omega
  | succ f ih =>
    intro i b h1 h2 h3
    cases hd : s.drop i with
    | nil =>
      have : s.length ≤ i := by have := congrArg List.length hd; simp at this; omega
      rw [BDecode_1, if_neg (by simp; omega), decS_nil]
      simp
    | cons c r =>
      obtain ⟨e1, e2, e3⟩ := drop_cons hd
      have t1 : ((i : Int) + 1).toNat = i + 1 := by omega
      have ok : ∀ n : Int, 0 ≤ n → n ≤ 10000000 → i64ok n := fun n h h' => i64ok_small (by omega) (by omega)
      have next : ∀ (k : Nat) (b' : List UInt8), i + k + 1 ≤ s.length → b'.length ≤ i + k + 1 → BDecode_2 fuel (BDecode_1 fuel f) s ((i : Int) + k) b' = some (b' ++ decS (s.drop (i + k + 1))) := by
        intro k b' hk hb
        unfold BDecode_2
        rw [if_pos (ok _ (by omega) (by omega))]
        have := ih (i + k + 1) b' (by omega) hk hb
        rw [← this]; congr 1
      have d0 : s.drop (i + 0 + 1) = r := e2
      rw [BDecode_1, if_pos (by simp; omega), if_pos ⟨ok _ (by omega) (by omega), by omega, by omega⟩, if_pos (by omega)]
      simp only [Int.toNat_natCast, e1, t1, e2, u8_back]
      have n0 := next 0
      simp only [Int.natCast_zero, Int.add_zero, d0] at n0
      by_cases hc : c = 61
      · subst hc
        rw [if_neg (by decide)]
        match r, e3, d0, n0, hd with
        | [], e3, d0, n0, hd =>
          rw [if_pos (by simp), if_neg (by simp), if_pos (by simp), if_neg (by simp), if_pos (by simp), if_neg (by simp), if_pos (by simp; omega), n0 _ (by simp at e3; omega) (by simp; omega), decS_1, decS_nil]
          simp
        | [x], e3, d0, n0, hd =>
          simp only [List.length_cons, List.length_nil] at e3
          rw [if_pos (by simp), if_neg (by simp), if_pos (by simp)]
          by_cases hx : x = 10
          · subst hx
            have n1 := next 1 b (by omega) (by omega)
            rw [if_pos (by simp), if_pos (ok _ (by omega) (by omega))]
            refine n1.trans ?_
            rw [decS_2, List.drop_of_length_le (by omega), decS_nil]; rfl
          · have hx' : ¬ ((x.toNat : Int) = 10) := fun e => hx (u8_eq (d := 10) |>.1 e)
            rw [if_neg (by simp; exact fun e => hx (u8_eq (d := 10) |>.1 e)), if_pos (by simp), if_neg (by simp), if_pos (by simp; omega), n0 _ (by omega) (by simp; omega), decS_2, if_neg hx]
            simp
        | x :: y :: t, e3, d0, n0, hd =>
          simp only [List.length_cons] at e3
          have hl : ((t.length : Int) + 1 + 1 > 1) := by omega
          have dx := digitS_lt (x.toNat)
          have dy := digitS_lt (y.toNat)
          have d2 : s.drop (i + 2 + 1) = t := by
            have : (s.drop (i + 1)).drop 2 = t := by rw [d0]; rfl
            rw [List.drop_drop] at this; exact this
          have d1 : s.drop (i + 1 + 1) = y :: t := by
            have : (s.drop (i + 1)).drop 1 = y :: t := by rw [d0]; rfl
            rw [List.drop_drop] at this; exact this
          rw [if_pos (by simp; omega), decS_3]
          by_cases hh : isHex x ∧ isHex y
          · have h1 : (0 : Int) ≤ digitS x.toNat := hh.1
            have h2' : (0 : Int) ≤ digitS y.toNat := hh.2
            rw [if_pos (by simpa using ⟨⟨by omega, h1⟩, h2'⟩), if_pos hh]
            have e : [UInt8.ofNat (IntKind.u8.wrap (ibits .or .i64 (IntKind.i64.wrap ((digitS ((((x :: y :: t).getD ((0 : Int)).toNat 0).toNat : Int))) * 2 ^ (min ((4 : Int)).toNat 64))) (digitS ((((x :: y :: t).getD ((1 : Int)).toNat 0).toNat : Int))))).toNat] = [hexB x y] := by
              show [UInt8.ofNat (IntKind.u8.wrap (ibits .or .i64 (IntKind.i64.wrap ((digitS (x.toNat : Int)) * 2 ^ (min ((4 : Int)).toNat 64))) (digitS (y.toNat : Int)))).toNat] = _
              rw [or_digits h1 dx.1 h2' dy.1]; rfl
            rw [e]
            have n2 := next 2 (b ++ [hexB x y]) (by omega) (by simp; omega)
            rw [if_pos ⟨by simp; omega, by omega, by simp; omega, by simp; omega⟩, if_pos (ok _ (by omega) (by omega))]
            refine n2.trans ?_
            rw [d2]; simp
          · rw [if_neg (by
              intro h; simp at h
              exact hh ⟨h.1.2, h.2⟩), if_neg hh, if_pos (by simp)]
            by_cases hx : x = 10
            · subst hx
              rw [if_pos (by simp; omega), if_pos (ok _ (by omega) (by omega)), if_pos rfl]
              refine (next 1 b (by omega) (by omega)).trans ?_
              rw [d1]
            · have hx' : ¬ ((x.toNat : Int) = 10) := fun e => hx (u8_eq (d := 10) |>.1 e)
              rw [if_neg (by
                intro h; simp at h
                exact hx (u8_eq (d := 10) |>.1 h.2)), if_neg hx, if_pos (by simp; omega)]
              by_cases hxy : x = 13 ∧ y = 10
              · obtain ⟨rfl, rfl⟩ := hxy
                rw [if_pos (by simp; omega), if_pos (ok _ (by omega) (by omega)), if_pos ⟨rfl, rfl⟩]
                refine (next 2 b (by omega) (by omega)).trans ?_
                rw [d2]
              · rw [if_neg (by
                  intro h; simp at h
                  exact hxy ⟨u8_eq (d := 13) |>.1 h.1.2, u8_eq (d := 10) |>.1 h.2⟩), if_neg hxy, if_pos (by simp; omega), n0 _ (by omega) (by simp; omega)]
                simp
      · have hc' : (((c.toNat : Int) != 61) = true) := by simpa using fun e => hc (u8_eq (d := 61) |>.1 e)
        rw [if_pos hc', if_pos ⟨by omega, by simp; omega⟩, n0 _ (by omega) (by simp; omega), decS_ne hc]
        simp
theorem Decode_eq (s : List UInt8) (hs : s.length ≤ 1000000) : FDecode 1000001 s = some (decS s) := by
  have := BDecode_eq 1000001 s hs 1000001 0 [] (by omega) (by omega) (by simp)
  simpa [FDecode] using this

theorem BPlain_eq (fuel : Nat) (s : List UInt8) (hs : s.length ≤ 1000000) : ∀ (f i : Nat) (b : List UInt8), s.length < f + i → i ≤ s.length → b.length ≤ i →
    BPlain_1 fuel f s (i : Int) b = some (b ++ decS (s.drop i)) := by
  intro f
  induction f with
  | zero => intro i b h1 h2; omega
  | succ f ih =>
    intro i b h1 h2 h3
    cases hd : s.drop i with
    | nil =>
      have : s.length ≤ i := by have := congrArg List.length hd; simp at this; omega
      rw [BPlain_1, if_neg (by simp; omega), decS_nil]
      simp
    | cons c r =>
      obtain ⟨e1, e2, e3⟩ := drop_cons hd
      have t1 : ((i : Int) + 1).toNat = i + 1 := by omega
      have t2 : ((i : Int) + 2).toNat = i + 2 := by omega
      have ok : ∀ n : Int, 0 ≤ n → n ≤ 10000000 → i64ok n := fun n h h' => i64ok_small (by omega) (by omega)
      have next : ∀ (k : Nat) (b' : List UInt8), i + k ≤ s.length → 1 ≤ k → b'.length ≤ i + k → BPlain_1 fuel f s ((i : Int) + k) b' = some (b' ++ decS (s.drop (i + k))) := by
        intro k b' hk hk1 hb
        have := ih (i + k) b' (by omega) hk hb
        rw [← this]; congr 1
      rw [BPlain_1, if_pos (by simp; omega)]
      simp only [Int.toNat_natCast, e1, t1, t2]
      have ok1 := ok ((i : Int) + 1) (by omega) (by omega)
      have ok2 := ok ((i : Int) + 2) (by omega) (by omega)
      have ok3 := ok ((i : Int) + 3) (by omega) (by omega)
      have n1 := next 1
      have n2 := next 2
      have n3 := next 3
      by_cases hc : c = 61
      · subst hc
        match r, e3, e2, hd with
        | [], e3, e2, hd =>
          simp only [List.length_nil] at e3
          rw [if_pos ⟨by omega, fun _ => ok2, fun _ => ok1, fun h => by simp at h; omega, fun _ => ok2, fun h => by simp at h; omega⟩,
            if_neg (by intro h; simp at h; omega), if_pos ⟨by omega, fun _ => ok1, fun _ => ok1, fun h => by simp at h; omega⟩, if_neg (by intro h; simp at h; omega),
            if_pos ⟨by omega, fun _ => ok2, fun _ => ok1, fun h => by simp at h; omega, fun _ => ok2, fun h => by simp at h; omega⟩,
            if_neg (by intro h; simp at h; omega), if_pos ⟨by omega, by simp; omega⟩, if_pos ok1]
          refine (n1 _ (by omega) (by omega) (by simp; omega)).trans ?_
          rw [e2, decS_nil, decS_1]; simp
        | [x], e3, e2, hd =>
          simp only [List.length_cons, List.length_nil] at e3
          have x1 := (drop_cons e2).1
          simp only [x1]
          rw [if_pos ⟨by omega, fun _ => ok2, fun _ => ok1, fun h => by simp at h; omega, fun _ => ok2, fun h => by simp at h; omega⟩,
            if_neg (by intro h; simp at h; omega), if_pos ⟨by omega, fun _ => ok1, fun _ => ok1, fun h => by omega⟩, decS_2]
          by_cases hx : x = 10
          · subst hx
            rw [if_pos (by simp; omega), if_pos ok2, if_pos rfl]
            refine (n2 b (by omega) (by omega) (by omega)).trans ?_
            rw [List.drop_of_length_le (by omega), decS_nil]
          · rw [if_neg (by intro h; simp at h; exact hx (u8_eq (d := 10) |>.1 h.2)), if_neg hx,
              if_pos ⟨by omega, fun _ => ok2, fun _ => ok1, fun h => by simp at h; omega, fun _ => ok2, fun h => by simp at h; omega⟩,
              if_neg (by intro h; simp at h; omega), if_pos ⟨by omega, by simp; omega⟩, if_pos ok1]
            refine (n1 _ (by omega) (by omega) (by simp; omega)).trans ?_
            rw [e2]; simp
        | x :: y :: t, e3, e2, hd =>
          simp only [List.length_cons] at e3
          obtain ⟨x1, x2, _⟩ := drop_cons e2
          obtain ⟨y1, y2, _⟩ := drop_cons x2
          rw [show i + 1 + 1 = i + 2 from rfl] at x2 y1
          rw [show i + 1 + 1 + 1 = i + 3 from rfl] at y2
          simp only [x1, y1]
          have dx := digitS_lt (x.toNat)
          have dy := digitS_lt (y.toNat)
          rw [if_pos ⟨by omega, fun _ => ok2, fun _ => ok1, fun _ => by omega, fun _ => ok2, fun _ => by omega⟩, decS_3]
          by_cases hh : isHex x ∧ isHex y
          · have h1 : (0 : Int) ≤ digitS x.toNat := hh.1
            have h2' : (0 : Int) ≤ digitS y.toNat := hh.2
            rw [if_pos (by simpa using ⟨⟨by omega, h1⟩, h2'⟩), if_pos hh, if_pos ⟨ok1, by omega, ok _ (by omega) (by omega), ok2, by omega, ok _ (by omega) (by omega), by simp; omega⟩, if_pos ok3]
            refine (n3 _ (by omega) (by omega) (by simp; omega)).trans ?_
            rw [y2, u8_small (by omega) (by omega)]
            simp [hexB]
          · rw [if_neg (by
              intro h; simp at h
              exact hh ⟨h.1.2, h.2⟩), if_neg hh, if_pos ⟨by omega, fun _ => ok1, fun _ => ok1, fun _ => by omega⟩]
            by_cases hx : x = 10
            · subst hx
              rw [if_pos (by simp; omega), if_pos ok2, if_pos rfl]
              refine (n2 b (by omega) (by omega) (by omega)).trans ?_
              rw [x2]
            · rw [if_neg (by intro h; simp at h; exact hx (u8_eq (d := 10) |>.1 h.2)), if_neg hx,
                if_pos ⟨by omega, fun _ => ok2, fun _ => ok1, fun _ => by omega, fun _ => ok2, fun _ => by omega⟩]
              by_cases hxy : x = 13 ∧ y = 10
              · obtain ⟨rfl, rfl⟩ := hxy
                rw [if_pos (by simp; omega), if_pos ok3, if_pos ⟨rfl, rfl⟩]
                refine (n3 b (by omega) (by omega) (by omega)).trans ?_
                rw [y2]
              · rw [if_neg (by
                  intro h; simp at h
                  exact hxy ⟨u8_eq (d := 13) |>.1 h.1.2, u8_eq (d := 10) |>.1 h.2⟩), if_neg hxy, if_pos ⟨by omega, by simp; omega⟩, if_pos ok1]
                refine (n1 _ (by omega) (by omega) (by simp; omega)).trans ?_
                rw [e2]; simp
      · have hc' : ((c.toNat : Int) == 61) = false := by simpa using fun e => hc (u8_eq (d := 61) |>.1 e)
        simp only [hc', Bool.false_and]
        have f0 : ∀ p : Prop, (false = true → p) := fun p h => by cases h
        rw [if_pos ⟨by omega, f0 _, f0 _, f0 _, f0 _, f0 _⟩, if_neg (by simp), if_pos ⟨by omega, f0 _, f0 _, f0 _⟩, if_neg (by simp), if_pos ⟨by omega, f0 _, f0 _, f0 _, f0 _, f0 _⟩, if_neg (by simp), if_pos ⟨by omega, by simp; omega⟩, if_pos ok1]
        refine (n1 _ (by omega) (by omega) (by simp; omega)).trans ?_
        rw [e2, decS_ne hc]; simp

theorem Plain_eq (s : List UInt8) (hs : s.length ≤ 1000000) : FPlain 1000001 s = some (decS s) := by
  have := BPlain_eq 1000001 s hs 1000001 0 [] (by omega) (by omega) (by simp)
  simpa [FPlain] using this
end Go.Proofs.Ytnojfkkdihchiaa
