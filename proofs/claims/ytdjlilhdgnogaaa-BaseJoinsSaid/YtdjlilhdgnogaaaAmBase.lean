/-
  The abstract machine of these proofs.
-/
import Derived.WalkKit
import Derived.Deep.AppendSrc
import Derived.OpenShut
set_option linter.unusedVariables false
/-! The abstract machine: values, relation to the model's values. -/
namespace Go.Am
open Go Go.RowKit

abbrev Mem := Nat → Nat → Option Value

/-- Pure data of one cell. -/
inductive PV where
  | bool (b : Bool)
  | int (k : IntKind) (n : Int)
  | str (l : List UInt8)
  | plain (v : Value)
  | nil
  | bytes (l : List UInt8)
  | list (k n : Nat) (f : Nat → Nat → PV)
  | box (n : Nat) (f : Nat → PV)
  | bad
  deriving Inhabited

def plainV : Value → Bool
  | .pointer none | .map none | .chan none | .nilFunc | .nilIface | .float _ _ => true
  | _ => false

def byteV (c : UInt8) : Value := .int .u8 (c.toNat : Int)

inductive PRel (M : Mem) : PV → Value → Prop
  | bool (b : Bool) : PRel M (.bool b) (.bool b)
  | int (k : IntKind) (n : Int) (h : k.has n) : PRel M (.int k n) (.int k n)
  | str (l : List UInt8) (h : l.length ≤ maxLen) : PRel M (.str l) (.string ⟨l.toArray⟩)
  | plain (v : Value) (h : plainV v = true) : PRel M (.plain v) v
  | nil : PRel M .nil (.slice none 0 0)
  | bytesNil : PRel M (.bytes []) (.slice none 0 0)
  | bytes (l : List UInt8) (b off cap : Nat) (hm : l.length ≤ maxLen) (hc : l.length ≤ cap)
      (h : ∀ i c, l[i]? = some c → M b (off + i) = some (byteV c)) : PRel M (.bytes l) (.slice (some ⟨b, off, none⟩) l.length cap)
  | listNil (k : Nat) (f : Nat → Nat → PV) : PRel M (.list k 0 f) (.slice none 0 0)
  | list (k n : Nat) (f : Nat → Nat → PV) (b off cap : Nat) (g : Nat → Nat → Value) (hm : n ≤ maxLen) (hc : n ≤ cap)
      (hM : ∀ i j, i < n → j < k → M b (off + i * k + j) = some (g i j))
      (h : ∀ i j, i < n → j < k → PRel M (f i j) (g i j)) : PRel M (.list k n f) (.slice (some ⟨b, off, none⟩) n cap)
  | box (n : Nat) (f : Nat → PV) (b off : Nat) (g : Nat → Value)
      (hM : ∀ j, j < n → M b (off + j) = some (g j))
      (h : ∀ j, j < n → PRel M (f j) (g j)) : PRel M (.box n f) (.pointer (some ⟨b, off, none⟩))

def MLe (M M' : Mem) : Prop := ∀ b o v, M b o = some v → M' b o = some v

theorem MLe.refl (M : Mem) : MLe M M := fun _ _ _ h => h
theorem MLe.trans {A B C : Mem} (h : MLe A B) (k : MLe B C) : MLe A C := fun b o v x => k b o v (h b o v x)

theorem PRel.mono {M M' : Mem} (hM : MLe M M') {x : PV} {v : Value} (h : PRel M x v) : PRel M' x v := by
  induction h with
  | bool b => exact .bool b
  | int k n h => exact .int k n h
  | str l h => exact .str l h
  | plain v h => exact .plain v h
  | nil => exact .nil
  | bytesNil => exact .bytesNil
  | bytes l b off cap hm hc h => exact .bytes l b off cap hm hc fun i c hi => hM _ _ _ (h i c hi)
  | listNil k f => exact .listNil k f
  | list k n f b off cap g hm hc h1 h2 ih => exact .list k n f b off cap g hm hc (fun i j a c => hM _ _ _ (h1 i j a c)) ih
  | box n f b off g h1 h2 ih => exact .box n f b off g (fun j a => hM _ _ _ (h1 j a)) ih

theorem PRel.oneCell {M : Mem} {x : PV} {v : Value} (h : PRel M x v) : v.oneCell' = true := by
  cases h <;> try rfl
  rename_i h; cases v <;> first | rfl | simp [plainV] at h

/-- What an object's name stands for. -/
inductive G where
  | cell (b : Nat)
  | arr (a : Option Nat) (k n cap : Nat)

def G.blk : G → Option Nat
  | .cell b => some b
  | .arr a _ _ _ => a

inductive AV where
  | any
  | p (x : PV)
  | ref (id off : Nat)
  | arr (id : Nat)
  | aptr (id i off : Nat)
  | clo (fn : Fn) (fs cs : List AV)
  | agg (cs : List AV)
  | tup (cs : List AV)
  | gd (c : Bool) (x : AV)
  deriving Inhabited

def arrV (a : Option Nat) (n cap : Nat) : Value := .slice (a.map fun g => ⟨g, 0, none⟩) n cap

inductive ARel (γ : Nat → Option G) (M : Mem) : AV → Value → Prop
  | any (v : Value) : ARel γ M .any v
  | p (x : PV) (v : Value) (h : PRel M x v) : ARel γ M (.p x) v
  | ref (id off b : Nat) (h : γ id = some (.cell b)) : ARel γ M (.ref id off) (.pointer (some ⟨b, off, none⟩))
  | arr (id : Nat) (a : Option Nat) (k n cap : Nat) (h : γ id = some (.arr a k n cap)) : ARel γ M (.arr id) (arrV a n cap)
  | aptr (id i off g k n cap : Nat) (h : γ id = some (.arr (some g) k n cap)) : ARel γ M (.aptr id i off) (.pointer (some ⟨g, i * k + off, none⟩))
  | clo (fn : Fn) (fs cs : List AV) (vf vc : Array Value) (hf : vf.size = fs.length) (hc : vc.size = cs.length)
      (h1 : ∀ i, i < fs.length → ARel γ M (fs.getD i .any) (vf.getD i undef))
      (h2 : ∀ i, i < cs.length → ARel γ M (cs.getD i .any) (vc.getD i undef)) : ARel γ M (.clo fn fs cs) (.func fn vf vc)
  | agg (cs : List AV) (vs : Array Value) (hs : vs.size = cs.length)
      (h : ∀ i, i < cs.length → ARel γ M (cs.getD i .any) (vs.getD i undef)) : ARel γ M (.agg cs) (.agg vs)
  | tup (cs : List AV) (vs : Array Value) (hs : vs.size = cs.length)
      (h : ∀ i, i < cs.length → ARel γ M (cs.getD i .any) (vs.getD i undef)) : ARel γ M (.tup cs) (.tuple vs)
  | gd (c : Bool) (x : AV) (v : Value) (h : c = true → ARel γ M x v) (h0 : c = false → v = undef) : ARel γ M (.gd c x) v

def GLe (γ γ' : Nat → Option G) : Prop := ∀ id g, γ id = some g → γ' id = some g
theorem GLe.refl (γ : Nat → Option G) : GLe γ γ := fun _ _ h => h
theorem GLe.trans {A B C : Nat → Option G} (h : GLe A B) (k : GLe B C) : GLe A C := fun b o x => k b o (h b o x)

theorem ARel.mono {γ γ' : Nat → Option G} {M M' : Mem} (hγ : GLe γ γ') (hM : MLe M M') {x : AV} {v : Value} (h : ARel γ M x v) : ARel γ' M' x v := by
  induction h with
  | any v => exact .any v
  | p x v h => exact .p x v (h.mono hM)
  | ref id off b h => exact .ref id off b (hγ _ _ h)
  | arr id a k n cap h => exact .arr id a k n cap (hγ _ _ h)
  | aptr id i off g k n cap h => exact .aptr id i off g k n cap (hγ _ _ h)
  | clo fn fs cs vf vc hf hc _ _ ih1 ih2 => exact .clo fn fs cs vf vc hf hc ih1 ih2
  | agg cs vs hs _ ih => exact .agg cs vs hs ih
  | tup cs vs hs _ ih => exact .tup cs vs hs ih
  | gd c x v _ h0 ih => exact .gd c x v ih h0

inductive AObj where
  | cells (cs : List AV)
  | barr (e : TypeId) (mu : Bool) (l : List UInt8)
  | larr (e : TypeId) (mu : Bool) (k n : Nat) (f : Nat → Nat → PV)
  deriving Inhabited

/-- A row of memory of the call's own; 'mu': it may be written in place; else its cells are known for good. -/
structure ArrOK (M : Mem) (w : World) (e : TypeId) (mu : Bool) (k n : Nat) (vs : List Value) (a : Option Nat) (cap : Nat) : Prop where
  own : w.ownsRow 0 e k (arrV a n cap) n vs
  one : ∀ v ∈ vs, v.oneCell' = true
  len : n ≤ maxLen
  mem : ∀ g, a = some g → if mu then ∀ o, M g o = none else ∀ o, M g o = vs[o]?

def OM (γ : Nat → Option G) (M : Mem) (w : World) (id : Nat) : AObj → Prop
  | .cells cs => ∃ b vs e, γ id = some (.cell b) ∧ w.heap[b]? = some (.cells vs e (0, 0)) ∧ vs.size = cs.length ∧
      (∀ j, j < cs.length → ARel γ M (cs.getD j .any) (vs.getD j undef) ∧ (vs.getD j undef).oneCell' = true) ∧ (∀ o, M b o = none)
  | .barr e mu l => ∃ a cap, γ id = some (.arr a 1 l.length cap) ∧ ArrOK M w e mu 1 l.length (l.map byteV) a cap
  | .larr e mu k n f => ∃ a cap vs, γ id = some (.arr a k n cap) ∧ (∀ i j, i < n → j < k → ∃ v, vs[i * k + j]? = some v ∧ PRel M (f i j) v) ∧
      ArrOK M w e mu k n vs a cap

structure S where
  sl : Nat → AV
  ob : Nat → Option AObj
  us : Nat → Bool

structure Ctx where
  w0 : World
  M0 : Mem
  own : Nat → Prop
  nt : Nat
  g0 : Nat → Option G

def MOk (M : Mem) (w : World) : Prop := ∀ b o v, M b o = some v → w.cell? ⟨b, o, none⟩ = some v

structure Fr (C : Ctx) (w : World) : Prop where
  os : w.os = C.w0.os
  tape : w.tape = C.w0.tape
  output : w.output = C.w0.output
  size : C.w0.heap.size ≤ w.heap.size
  block : ∀ b, b < C.w0.heap.size → ¬ C.own b → w.heap[b]? = C.w0.heap[b]?

structure StG (C : Ctx) (γ : Nat → Option G) (M : Mem) (s : S) (a : Act) (w : World) : Prop where
  sl : ∀ t, ARel γ M (s.sl t) (a.tmps.getD t undef)
  ob : ∀ id o, s.ob id = some o → OM γ M w id o
  us : ∀ id, s.us id = false → γ id = none
  sep : ∀ id id' g g' b, s.ob id ≠ none → s.ob id' ≠ none → γ id = some g → γ id' = some g' → g.blk = some b → g'.blk = some b → id = id'
  lo : ∀ id g b, s.ob id ≠ none → γ id = some g → g.blk = some b → (C.w0.heap.size ≤ b ∨ C.own b) ∧ b < w.heap.size
  mem : MOk M w
  le : MLe C.M0 M
  new : ∀ b, b < C.w0.heap.size → ¬ C.own b → M b = C.M0 b
  fr : Fr C w
  df : a.defers = []
  nt : a.tmps.size = C.nt
  gl : GLe C.g0 γ

def St (C : Ctx) (s : S) (a : Act) (w : World) : Prop := ∃ γ M, StG C γ M s a w

def upd {α : Type} (f : Nat → α) (i : Nat) (x : α) : Nat → α := fun j => match Nat.beq j i with | true => x | false => f j

theorem upd_same {α : Type} (f : Nat → α) (i : Nat) (x : α) : upd f i x i = x := by simp [upd]
theorem upd_ne {α : Type} (f : Nat → α) {i j : Nat} (x : α) (h : j ≠ i) : upd f i x j = f j := by
  unfold upd
  cases hb : Nat.beq j i with
  | true => exact absurd (Nat.eq_of_beq_eq_true hb) h
  | false => rfl
end Go.Am
