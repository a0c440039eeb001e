/-
  The abstract machine of these proofs.
-/
import Derived.Test.YtdjlilhdgnogaaaAmOps
set_option linter.unusedVariables false
/-! The evaluation of an operation that touches no memory, and its soundness. -/
namespace Go.Am
open Go Go.RowKit

def acst : Value → AV
  | .bool b => .p (.bool b)
  | .int k n => match decide (k.min ≤ n ∧ n ≤ k.max) with | true => .p (.int k n) | false => .any
  | .string s => match Nat.ble s.data.toList.length 9223372036854775807 with | true => .p (.str s.data.toList) | false => .any
  | .slice none 0 0 => .p .nil
  | v => match plainV v with | true => .p (.plain v) | false => .any

def aev (s : Nat → AV) : Operand → AV
  | .tmp t => s t
  | .const v => acst v
  | .global _ => .any
  | .func f => .clo (.func f) [] []

theorem acst_rel (γ : Nat → Option G) (M : Mem) (v : Value) : ARel γ M (acst v) v := by
  have plain : ARel γ M (match plainV v with | true => AV.p (.plain v) | false => .any) v := by
    cases h : plainV v
    · exact .any _
    · exact .p _ _ (.plain _ h)
  cases v with
  | bool b => exact .p _ _ (.bool b)
  | int k n =>
    show ARel γ M (match decide (k.min ≤ n ∧ n ≤ k.max) with | true => .p (.int k n) | false => .any) _
    split
    · rename_i h; exact .p _ _ (.int _ _ (show k.has n from of_decide_eq_true (p := k.min ≤ n ∧ n ≤ k.max) h))
    · exact .any _
  | string s =>
    show ARel γ M (match Nat.ble s.data.toList.length 9223372036854775807 with | true => .p (.str s.data.toList) | false => .any) _
    split
    · rename_i h
      have := PRel.str (M := M) s.data.toList (by unfold maxLen; exact Nat.le_of_ble_eq_true h)
      exact .p _ _ this
    · exact .any _
  | slice a l c =>
    unfold acst
    split
    · rename_i h; cases h
    · rename_i h; cases h
    · rename_i h; cases h
    · rename_i h; cases h; exact .p _ _ .nil
    · exact plain
  | _ => exact plain

theorem aev_rel {γ : Nat → Option G} {M : Mem} {s : Nat → AV} {a : Act} (h : ∀ t, ARel γ M (s t) (a.tmps.getD t undef)) (x : Operand) :
    ARel γ M (aev s x) (a.eval x) := by
  cases x with
  | tmp t => exact h t
  | const v => exact acst_rel γ M v
  | global g => exact .any _
  | func f => exact .clo (.func f) [] [] #[] #[] rfl rfl (fun i hi => absurd hi (Nat.not_lt_zero _)) (fun i hi => absurd hi (Nat.not_lt_zero _))

/-- One cell, known not to be a struct or a tuple. -/
def AV.one : AV → Bool
  | .p _ | .ref _ _ | .arr _ | .aptr _ _ _ | .clo _ _ _ => true
  | _ => false

theorem ARel.oneCell {γ : Nat → Option G} {M : Mem} {x : AV} {v : Value} (h : ARel γ M x v) (ho : x.one = true) : v.oneCell' = true := by
  cases h <;> first | rfl | cases ho | skip
  case p h => exact h.oneCell

def AV.cells : AV → List AV
  | .agg cs => cs
  | x => [x]

variable {P : Program}

def fieldOf (P : Program) (t : TypeId) (f : Nat) : Option Field :=
  match P.underlying t with
  | some (.struct fs) => fs[f]?
  | _ => none

def isAggT (P : Program) (t : TypeId) : Option Bool :=
  match P.underlying t with
  | some (.struct _) => some true
  | some (.array _ _) => some true
  | some _ => some false
  | none => none

def sizeT (P : Program) (t : TypeId) : Option Nat := (P.info? t).map (·.size)

theorem run_isAgg {t : TypeId} {b : Bool} (h : isAggT P t = some b) (w : World) : (isAgg t).run P w = .ok b w := by
  unfold isAggT at h
  cases hu : P.underlying t with
  | none => rw [hu] at h; cases h
  | some d =>
    rw [hu] at h
    cases d <;> cases h <;> simp [isAgg, run_underlying hu]

theorem run_sizeOf {t : TypeId} {n : Nat} (h : sizeT P t = some n) (w : World) : (sizeOf t).run P w = .ok n w := by
  unfold sizeT at h
  cases hi : P.info? t with
  | none => rw [hi] at h; cases h
  | some i => rw [hi] at h; cases h; simp [sizeOf, typeInfo, hi]

/-- A part of a struct's cells. -/
def apart (P : Program) (t : TypeId) (cs : List AV) (off : Nat) : Option AV :=
  match isAggT P t, sizeT P t with
  | some true, some n => match Nat.ble (off + n) cs.length with
    | true => some (.agg ((cs.drop off).take n))
    | false => none
  | some false, some _ => match Nat.blt off cs.length with
    | true => some (cs.getD off .any)
    | false => none
  | _, _ => none

/-- Whether int numbers of the one kind are all numbers of the other. -/
def fitsIn (s d : IntKind) : Bool :=
  match s, d with
  | .u8, .i64 | .u16, .i64 | .u32, .i64 | .i8, .i64 | .i16, .i64 | .i32, .i64 | .i64, .i64 | .u8, .i32 | .u8, .u8 | .u8, .u32 | .u8, .u64 | .u8, .u16 | .i32, .i32 | .u64, .u64 | .u32, .u32 | .u32, .u64 => true
  | _, _ => false

theorem fits_has {s d : IntKind} {n : Int} (h : fitsIn s d = true) (hn : s.has n) : d.has n := by
  cases s <;> cases d <;> first
    | (exact Bool.noConfusion h)
    | (simp [IntKind.has, IntKind.min, IntKind.max, IntKind.signed, IntKind.bits] at hn ⊢; omega)

def aconv (P : Program) (d : TypeId) (x : PV) : Option PV :=
  match P.underlying d, x with
  | some (.int k), .int s n => match fitsIn s k with
    | true => some (.int k n)
    | false => some (.int k (k.wrap n))
  | some .string, .str l => some (.str l)
  | _, _ => none

def isSliceT (P : Program) (t : TypeId) : Bool := match P.underlying t with | some (.slice _) => true | _ => false
def isStrT (P : Program) (t : TypeId) : Bool := match P.underlying t with | some .string => true | _ => false
def sliceE (P : Program) (t : TypeId) : Option TypeId := match P.underlying t with | some (.slice e) => some e | _ => none
theorem isSliceT_spec {t : TypeId} (h : isSliceT P t = true) : ∃ e, P.underlying t = some (.slice e) := by
  unfold isSliceT at h; split at h
  · exact ⟨_, by assumption⟩
  · cases h
theorem isStrT_spec {t : TypeId} (h : isStrT P t = true) : P.underlying t = some .string := by
  unfold isStrT at h; split at h
  · assumption
  · cases h
theorem sliceE_spec {t e : TypeId} (h : sliceE P t = some e) : P.underlying t = some (.slice e) := by
  unfold sliceE at h; split at h
  · cases h; assumption
  · cases h

def bool? (b : Bool) {α : Type} (x : α) : Option α := match b with | true => some x | false => none

def aslice (l : List UInt8) (lo hi : Int) : AV × Option Prop :=
  (.p (.str ((l.take hi.toNat).drop lo.toNat)), some (0 ≤ lo ∧ lo ≤ hi ∧ hi ≤ (l.length : Int)))

def plen : PV → Option Nat
  | .str l => some l.length
  | .bytes l => some l.length
  | .list _ n _ => some n
  | .nil => some 0
  | _ => none

def amin : List AV → Option Int
  | [] => none
  | [.p (.int .i64 a)] => some a
  | _ => none

def afoldMin (x : Int) : List AV → Option Int
  | [] => some x
  | .p (.int .i64 y) :: r => afoldMin (if y < x then y else x) r
  | _ => none
def afoldMax (x : Int) : List AV → Option Int
  | [] => some x
  | .p (.int .i64 y) :: r => afoldMax (if y > x then y else x) r
  | _ => none


def ev1 : List AV → Option (AV × Option Prop)
  | [x] => some (x, none)
  | _ => none

def isConstBool : Operand → Option Bool
  | .const (.bool b) => some b
  | _ => none

def evAnd (c : Bool) : AV → Option (AV × Option Prop)
  | .gd c' (.p (.bool a)) => some (.p (.bool (c && a)), some (c = true → c' = true))
  | .p (.bool a) => some (.p (.bool (c && a)), none)
  | _ => none
def evOr (c : Bool) : AV → Option (AV × Option Prop)
  | .gd c' (.p (.bool a)) => some (.p (.bool (c || a)), some (c = false → c' = true))
  | .p (.bool a) => some (.p (.bool (c || a)), none)
  | _ => none
def evPick (x y : Operand) : List AV → Option (AV × Option Prop)
  | [.p (.bool c), a, b] => match isConstBool y with
    | some false => evAnd c a
    | _ => match isConstBool x with
      | some true => evOr c b
      | _ => none
  | _ => none

def isBoolP : PV → Bool | .bool _ => true | _ => false

def evBin (P : Program) (op : BinOp) (t : TypeId) : List AV → Option (AV × Option Prop)
  | [.p x, .p y] => match isBoolP x with
    | true => match isBoolT P t with
      | true => (abin op x y).map fun r => (.p r.1, r.2)
      | false => none
    | false => (abin op x y).map fun r => (.p r.1, r.2)
  | _ => none

def evUn (op : UnOp) : List AV → Option (AV × Option Prop)
  | [.p (.bool b)] => match op with
    | .not => some (.p (.bool (!b)), none)
    | _ => none
  | [.p (.int k n)] => match op with
    | .neg => some (.p (arith k (0 - n)).1, (arith k (0 - n)).2)
    | _ => none
  | _ => none

def knownT (P : Program) (t : TypeId) : Bool := (P.underlying t).isSome

def evConv (P : Program) (s d : TypeId) : List AV → Option (AV × Option Prop)
  | [.p x] => match knownT P s with
    | true => (aconv P d x).map fun r => (.p r, none)
    | false => none
  | _ => none

def evIndex (P : Program) (t : TypeId) : List AV → Option (AV × Option Prop)
  | [.p (.str l), .p (.int _ i)] => bool? (isStrT P t) (.p (.int .u8 ((l.getD i.toNat 0).toNat : Int)), some (0 ≤ i ∧ i < (l.length : Int)))
  | _ => none

def evSlice (P : Program) (t : TypeId) (lo hi : Bool) : List AV → Option (AV × Option Prop)
  | [.p (.str l)] => match lo, hi with
    | false, false => bool? (isStrT P t) (.p (.str l), none)
    | _, _ => none
  | [.p (.str l), .p (.int _ i)] => match lo, hi with
    | true, false => bool? (isStrT P t) (.p (.str (l.drop i.toNat)), some (0 ≤ i ∧ i ≤ (l.length : Int)))
    | false, true => bool? (isStrT P t) (.p (.str (l.take i.toNat)), some (0 ≤ i ∧ i ≤ (l.length : Int)))
    | _, _ => none
  | [.p (.str l), .p (.int _ i), .p (.int _ j)] => match lo, hi with
    | true, true => bool? (isStrT P t) (aslice l i j)
    | _, _ => none
  | _ => none

def evExtract (i : Nat) : List AV → Option (AV × Option Prop)
  | [.tup cs] => match Nat.blt i cs.length with | true => some (cs.getD i .any, none) | false => none
  | _ => none

def evField (P : Program) (t : TypeId) (f : Nat) : List AV → Option (AV × Option Prop)
  | [.agg cs] => match fieldOf P t f with
    | some fd => (apart P fd.type cs fd.offset).map fun r => (r, none)
    | none => none
  | _ => none

def shiftAddr (k : Nat) : AV → Option AV
  | .ref id off => some (.ref id (off + k))
  | .p (.box n g) => match Nat.ble k n with
    | true => some (.p (.box (n - k) (fun j => g (k + j))))
    | false => none
  | .aptr id i off => some (.aptr id i (off + k))
  | _ => none

def evFieldAddr (P : Program) (t : TypeId) (f : Nat) : List AV → Option (AV × Option Prop)
  | [x] => match fieldOf P t f with
    | some fd => match sizeT P fd.type with
      | some (_ + 1) => (shiftAddr fd.offset x).map fun r => (r, none)
      | _ => none
    | none => none
  | _ => none

def elemSize (P : Program) (t : TypeId) : Option Nat :=
  match sliceE P t with
  | some e => sizeT P e
  | none => none

def evIndexAddr (P : Program) (t : TypeId) : List AV → Option (AV × Option Prop)
  | [.p (.list k n f), .p (.int _ i)] => match elemSize P t with
    | some k' => bool? (Nat.beq k k') (.p (.box k (f i.toNat)), some (0 ≤ i ∧ i < (n : Int)))
    | none => none
  | [.p (.bytes l), .p (.int _ i)] => match elemSize P t with
    | some k' => bool? (Nat.beq 1 k') (.p (.box 1 (fun _ => .int .u8 ((l.getD i.toNat 0).toNat : Int))), some (0 ≤ i ∧ i < (l.length : Int)))
    | none => none
  | _ => none

def evNilCheck : List AV → Option (AV × Option Prop)
  | [.ref id off] => some (.ref id off, none)
  | [.p (.box n f)] => some (.p (.box n f), none)
  | _ => none

def evLen (P : Program) (t : TypeId) : List AV → Option (AV × Option Prop)
  | [.p x] => match x with
    | .str l => bool? (isStrT P t) (.p (.int .i64 (l.length : Int)), none)
    | .bytes l => bool? (isSliceT P t) (.p (.int .i64 (l.length : Int)), none)
    | .list _ n _ => bool? (isSliceT P t) (.p (.int .i64 (n : Int)), none)
    | .nil => bool? (isSliceT P t) (.p (.int .i64 0), none)
    | _ => none
  | _ => none

def evMin : List AV → Option (AV × Option Prop)
  | .p (.int .i64 a) :: r => (afoldMin a r).map fun n => (.p (.int .i64 n), none)
  | _ => none
def evMax : List AV → Option (AV × Option Prop)
  | .p (.int .i64 a) :: r => (afoldMax a r).map fun n => (.p (.int .i64 n), none)
  | _ => none

def evBuiltin (P : Program) (b : Builtin) (ts : Array TypeId) (xs : List AV) : Option (AV × Option Prop) :=
  match b with
  | .len => match ts[0]? with | some t => evLen P t xs | none => none
  | .min => evMin xs
  | .max => evMax xs
  | _ => none

def evCallP (P : Program) (c : Call) (xs : List AV) : Option (AV × Option Prop) :=
  match c.callee with
  | .builtin b => evBuiltin P b c.argTypes xs
  | _ => none

/-- The value of an operation that touches no memory, and what must hold for it to be carried out. -/
def evP (P : Program) (op : Op) (xs : List AV) : Option (AV × Option Prop) :=
  match op with
  | .move _ => ev1 xs
  | .assign _ => ev1 xs
  | .pick _ x y => evPick x y xs
  | .binOp op t _ _ _ => evBin P op t xs
  | .unOp op _ _ => evUn op xs
  | .convert s d _ => evConv P s d xs
  | .index t _ _ => evIndex P t xs
  | .slice t _ lo hi mx => match mx with
    | none => evSlice P t lo.isSome hi.isSome xs
    | some _ => none
  | .extract _ i => evExtract i xs
  | .field t _ f => evField P t f xs
  | .fieldAddr t _ f => evFieldAddr P t f xs
  | .indexAddr t _ _ => evIndexAddr P t xs
  | .makeFunc fn a _ => some (.clo fn (xs.take a.size) (xs.drop a.size), none)
  | .nilCheck _ => evNilCheck xs
  | .call c => evCallP P c xs
  | _ => none
end Go.Am
