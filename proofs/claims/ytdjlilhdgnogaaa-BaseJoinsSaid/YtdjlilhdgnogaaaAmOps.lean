/-
  The abstract machine of these proofs.
-/
import Derived.Test.YtdjlilhdgnogaaaAmBase
set_option linter.unusedVariables false
/-! Operations that touch no memory. -/
namespace Go.Am
open Go Go.RowKit

@[reducible] def i64ok (n : Int) : Prop := -9223372036854775808 ≤ n ∧ n ≤ 9223372036854775807
@[reducible] def lenok (n : Nat) : Prop := n ≤ 9223372036854775807

theorem has_i64 {n : Int} (h : i64ok n) : IntKind.i64.has n := by
  unfold i64ok at h; simp only [IntKind.has, IntKind.min, IntKind.max, IntKind.signed, IntKind.bits]; simp; omega
theorem i64_of_has {n : Int} (h : IntKind.i64.has n) : i64ok n := by
  simp [IntKind.has, IntKind.min, IntKind.max, IntKind.signed, IntKind.bits] at h; unfold i64ok; omega
theorem wrap_has (k : IntKind) (n : Int) : k.has (k.wrap n) := by
  cases k <;> simp [IntKind.has, IntKind.wrap, IntKind.min, IntKind.max, IntKind.signed, IntKind.bits] <;> (try split) <;> omega
theorem wrap_of_has {k : IntKind} {n : Int} (h : k.has n) : k.wrap n = n := by
  cases k <;> simp [IntKind.has, IntKind.wrap, IntKind.min, IntKind.max, IntKind.signed, IntKind.bits] at h ⊢ <;> (try split) <;> omega
theorem has_u8 (c : UInt8) : IntKind.u8.has (c.toNat : Int) := by
  have := c.toNat_lt; simp [IntKind.has, IntKind.min, IntKind.max, IntKind.signed, IntKind.bits]; omega

def ibits (op : BinOp) (k : IntKind) (x y : Int) : Int :=
  match op with
  | .and => k.wrap ((BitVec.ofInt k.bits x &&& BitVec.ofInt k.bits y).toNat)
  | .or => k.wrap ((BitVec.ofInt k.bits x ||| BitVec.ofInt k.bits y).toNat)
  | .xor => k.wrap ((BitVec.ofInt k.bits x ^^^ BitVec.ofInt k.bits y).toNat)
  | .andNot => k.wrap ((BitVec.ofInt k.bits x &&& ~~~BitVec.ofInt k.bits y).toNat)
  | _ => 0

def isI64 : IntKind → Bool | .i64 => true | _ => false

/-- What must hold for an operation to be carried out ('none': nothing). -/
@[reducible] def okP : Option Prop → Prop
  | none => True
  | some p => p

def arith (k : IntKind) (n : Int) : PV × Option Prop :=
  match isI64 k with
  | true => (.int k n, some (i64ok n))
  | false => (.int k (k.wrap n), none)

/-- Which kinds' numbers all fit into int64 (and int). -/
def small : IntKind → Bool | .u64 => false | _ => true

def kindEq (a b : IntKind) : Bool :=
  match a, b with
  | .i8, .i8 | .i16, .i16 | .i32, .i32 | .i64, .i64 | .u8, .u8 | .u16, .u16 | .u32, .u32 | .u64, .u64 => true
  | _, _ => false
theorem kindEq_eq {a b : IntKind} (h : kindEq a b = true) : a = b := by cases a <;> cases b <;> first | rfl | cases h

def abinInt (op : BinOp) (k : IntKind) (a b : Int) : Option (PV × Option Prop) :=
  match op with
  | .add => some (arith k (a + b))
  | .sub => some (arith k (a - b))
  | .mul => some (arith k (a * b))
  | .quo => match isI64 k with
    | true => some (.int k (a.tdiv b), some (b ≠ 0 ∧ i64ok (a.tdiv b)))
    | false => some (.int k (k.wrap (a.tdiv b)), some (b ≠ 0))
  | .rem => some (.int k (a.tmod b), some (b ≠ 0))
  | .and => some (.int k (ibits .and k a b), none)
  | .or => some (.int k (ibits .or k a b), none)
  | .xor => some (.int k (ibits .xor k a b), none)
  | .andNot => some (.int k (ibits .andNot k a b), none)
  | .eql => some (.bool (a == b), none)
  | .neq => some (.bool (a != b), none)
  | .lss => some (.bool (decide (a < b)), none)
  | .leq => some (.bool (decide (a ≤ b)), none)
  | .gtr => some (.bool (decide (a > b)), none)
  | .geq => some (.bool (decide (a ≥ b)), none)
  | _ => none

def abinStr (op : BinOp) (a b : List UInt8) : Option (PV × Option Prop) :=
  match op with
  | .add => some (.str (a ++ b), some (lenok (a.length + b.length)))
  | .eql => some (.bool (a == b), none)
  | .neq => some (.bool (a != b), none)
  | .lss => some (.bool (Op.bytesLess a b), none)
  | .leq => some (.bool (Op.bytesLess a b || a == b), none)
  | .gtr => some (.bool (!(Op.bytesLess a b || a == b)), none)
  | .geq => some (.bool (!(Op.bytesLess a b)), none)
  | _ => none

def abin (op : BinOp) (x y : PV) : Option (PV × Option Prop) :=
  match x, y with
  | .int k a, .int k' b =>
    match op with
    | .shl => some (.int k (k.wrap (a * 2 ^ (min b.toNat k.bits))), some (0 ≤ b))
    | .shr => some (.int k (a.fdiv (2 ^ (min b.toNat k.bits))), some (0 ≤ b))
    | op => match kindEq k k' with | true => abinInt op k a b | false => none
  | .str a, .str b => abinStr op a b
  | .bool a, .bool b => match op with
    | .eql => some (.bool (a == b), none)
    | .neq => some (.bool (a != b), none)
    | _ => none
  | _, _ => none

theorem emod_le_self (a b : Int) (h : 0 ≤ a) : a % b ≤ a := by
  obtain ⟨m, rfl⟩ := Int.eq_ofNat_of_zero_le h
  have key : ∀ n : Nat, (m : Int) % (n : Int) ≤ (m : Int) := fun n => by
    have := Nat.mod_le m n
    have e : ((m % n : Nat) : Int) = (m : Int) % (n : Int) := Int.natCast_emod m n
    omega
  rcases Int.natAbs_eq b with hb | hb
  · rw [hb]; exact key _
  · rw [hb, Int.emod_neg]; exact key _
theorem tmod_has {k : IntKind} {a b : Int} (ha : k.has a) (_hb : k.has b) (_h0 : b ≠ 0) : k.has (a.tmod b) := by
  have h1 : a.tmod b = a - b * (a.tdiv b) := by have := Int.mul_tdiv_add_tmod a b; omega
  rcases Int.le_total 0 a with h | h
  · have h2 := Int.tmod_nonneg b h
    have h3 : a.tmod b ≤ a := by
      rw [Int.tmod_eq_emod_of_nonneg h]; exact emod_le_self a b h
    simp only [IntKind.has] at *
    have h4 : k.min ≤ 0 := by cases k <;> simp [IntKind.min, IntKind.signed, IntKind.bits]
    omega
  · have h2 : a.tmod b ≤ 0 := by
      have := Int.tmod_nonneg b (a := -a) (by omega)
      rw [Int.neg_tmod] at this; omega
    have h3 : a ≤ a.tmod b := by
      have hx : (-a).tmod b ≤ -a := by
        rw [Int.tmod_eq_emod_of_nonneg (by omega : (0:Int) ≤ -a)]; exact emod_le_self (-a) b (by omega)
      rw [Int.neg_tmod] at hx; omega
    simp only [IntKind.has] at *
    have h4 : 0 ≤ k.max := by cases k <;> simp [IntKind.max, IntKind.signed, IntKind.bits]
    omega

theorem fdiv_has {k : IntKind} {a : Int} (ha : k.has a) (n : Nat) : k.has (a.fdiv (2 ^ n)) := by
  have hp : (0 : Int) < 2 ^ n := Int.pow_pos (by decide)
  have e : a.fdiv (2 ^ n) = a / (2 ^ n) := Int.fdiv_eq_ediv_of_nonneg a (Int.le_of_lt hp)
  rw [e]
  simp only [IntKind.has] at *
  have h4 : k.min ≤ 0 := by cases k <;> simp [IntKind.min, IntKind.signed, IntKind.bits]
  have h5 : 0 ≤ k.max := by cases k <;> simp [IntKind.max, IntKind.signed, IntKind.bits]
  rcases Int.le_total 0 a with h | h
  · have h1 : 0 ≤ a / 2 ^ n := Int.ediv_nonneg h (Int.le_of_lt hp)
    have h2 : a / 2 ^ n ≤ a := Int.ediv_le_self _ h
    omega
  · have h1 : a / 2 ^ n ≤ 0 := by
      have := Int.ediv_le_ediv hp h; simpa using this
    have h2 : a ≤ a / 2 ^ n := by
      rw [Int.le_ediv_iff_mul_le hp]
      have : a * 2 ^ n ≤ a * 1 := Int.mul_le_mul_of_nonpos_left h (by omega)
      omega
    omega

theorem arith_rel {M : Mem} {k : IntKind} {n : Int} (h : okP (arith k n).2) : PRel M (arith k n).1 (.int k (k.wrap n)) := by
  unfold arith at *
  cases k <;> simp only [isI64] at h ⊢ <;> first
    | (rw [wrap_of_has (has_i64 h)]; exact .int _ _ (has_i64 h))
    | exact .int _ _ (wrap_has _ _)

theorem bool_rel {M : Mem} {b c : Bool} (h : b = c) : PRel M (.bool b) (.bool c) := h ▸ .bool b

variable {P : Program}

theorem ibits_run (op : BinOp) (k : IntKind) (a b : Int) (hop : op = .and ∨ op = .or ∨ op = .xor ∨ op = .andNot) (w : World) :
    (Op.intBits op k a b).run P w = .ok (.int k (ibits op k a b)) w := by
  rcases hop with rfl | rfl | rfl | rfl <;> simp [Op.intBits, ibits]

theorem abinInt_sound {M : Mem} {op : BinOp} {k : IntKind} {a b : Int} {r : PV} {ok : Option Prop} (h : abinInt op k a b = some (r, ok)) (hok : okP ok)
    (ha : k.has a) (hb : k.has b) (t : TypeId) (w : World) : ∃ v, (binOp op t (.int k a) (.int k b)).run P w = .ok v w ∧ PRel M r v := by
  cases op <;> simp only [abinInt, Option.some.injEq, reduceCtorEq] at h
  case add => cases hx : arith k (a + b); rw [hx] at h; cases h; have := arith_rel (M := M) (k := k) (n := a + b) (by rw [hx]; exact hok); rw [hx] at this; exact ⟨_, by simp [binOp, Op.intArith], this⟩
  case sub => cases hx : arith k (a - b); rw [hx] at h; cases h; have := arith_rel (M := M) (k := k) (n := a - b) (by rw [hx]; exact hok); rw [hx] at this; exact ⟨_, by simp [binOp, Op.intArith], this⟩
  case mul => cases hx : arith k (a * b); rw [hx] at h; cases h; have := arith_rel (M := M) (k := k) (n := a * b) (by rw [hx]; exact hok); rw [hx] at this; exact ⟨_, by simp [binOp, Op.intArith], this⟩
  case quo =>
    cases hk : isI64 k <;> rw [hk] at h <;> cases h
    · exact ⟨_, by simp [binOp, Op.intDiv, hok], .int _ _ (wrap_has _ _)⟩
    · have : k = .i64 := by cases k <;> first | rfl | cases hk
      subst this
      exact ⟨.int .i64 (a.tdiv b), by simp [binOp, Op.intDiv, hok.1, wrap_of_has (has_i64 hok.2)], .int _ _ (has_i64 hok.2)⟩
  case rem => cases h; exact ⟨_, by simp [binOp, Op.intDiv, hok], .int _ _ (tmod_has ha hb hok)⟩
  case and => cases h; exact ⟨_, by simp only [binOp, ne_eq, not_true_eq_false, if_false]; exact ibits_run .and k a b (by simp) w, .int _ _ (wrap_has _ _)⟩
  case or => cases h; exact ⟨_, by simp only [binOp, ne_eq, not_true_eq_false, if_false]; exact ibits_run .or k a b (by simp) w, .int _ _ (wrap_has _ _)⟩
  case xor => cases h; exact ⟨_, by simp only [binOp, ne_eq, not_true_eq_false, if_false]; exact ibits_run .xor k a b (by simp) w, .int _ _ (wrap_has _ _)⟩
  case andNot => cases h; exact ⟨_, by simp only [binOp, ne_eq, not_true_eq_false, if_false]; exact ibits_run .andNot k a b (by simp) w, .int _ _ (wrap_has _ _)⟩
  all_goals (cases h; exact ⟨_, by simp [binOp, Op.intCmp], .bool _⟩)

theorem strEq (a b : List UInt8) : ((⟨a.toArray⟩ : ByteArray).toList == (⟨b.toArray⟩ : ByteArray).toList) = (a == b) := by
  simp [ByteArray.toList_eq]

theorem abinStr_sound {M : Mem} {op : BinOp} {a b : List UInt8} {r : PV} {ok : Option Prop} (h : abinStr op a b = some (r, ok)) (hok : okP ok)
    (t : TypeId) (w : World) : ∃ v, (binOp op t (.string ⟨a.toArray⟩) (.string ⟨b.toArray⟩)).run P w = .ok v w ∧ PRel M r v := by
  have hta : ∀ l : List UInt8, (⟨l.toArray⟩ : ByteArray).toList = l := fun l => by simp [ByteArray.toList_eq]
  cases op <;> simp only [abinStr, Option.some.injEq, reduceCtorEq] at h <;> cases h
  case add =>
    refine ⟨.string ⟨(a ++ b).toArray⟩, ?_, .str _ (by simpa [maxLen] using hok)⟩
    have hs : ¬ (((⟨a.toArray⟩ : ByteArray).size + (⟨b.toArray⟩ : ByteArray).size : Nat) : Int) > IntKind.i64.max := by
      simp [IntKind.max, IntKind.signed, IntKind.bits, ByteArray.size]
      unfold lenok at hok; omega
    have he : (⟨a.toArray⟩ : ByteArray) ++ (⟨b.toArray⟩ : ByteArray) = ⟨(a ++ b).toArray⟩ := by
      apply ByteArray.ext; simp
    simp only [binOp, Op.stringOp, hs, if_false, he]
    rfl
  all_goals exact ⟨_, by simp only [binOp, Op.stringOp, hta]; rfl, .bool _⟩

theorem PRel.int_inv {M : Mem} {k : IntKind} {n : Int} {v : Value} (h : PRel M (.int k n) v) : v = .int k n ∧ k.has n := by cases h; exact ⟨rfl, by assumption⟩
theorem PRel.str_inv {M : Mem} {l : List UInt8} {v : Value} (h : PRel M (.str l) v) : v = .string ⟨l.toArray⟩ ∧ l.length ≤ maxLen := by cases h; exact ⟨rfl, by assumption⟩
theorem PRel.bool_inv {M : Mem} {b : Bool} {v : Value} (h : PRel M (.bool b) v) : v = .bool b := by cases h; rfl

theorem run_bool_eq (a b : Bool) (t : TypeId) (w : World) (ht : P.underlying t = some .bool) :
    (Op.equal t (.bool a) (.bool b)).run P w = .ok (a == b) w := by
  have key : ∀ d, (Op.equalIn (d + 1) t (.bool a) (.bool b)).run P w = .ok (a == b) w := fun d => by simp [Op.equalIn, run_underlying ht]
  exact key 9999

def isBoolT (P : Program) (t : TypeId) : Bool := match P.underlying t with | some .bool => true | _ => false
end Go.Am
