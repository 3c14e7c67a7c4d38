/-
  A part of the proof of: The statement LiveIntervals (quernlaw17) holds of the given program: for every function of blocks and every line that can be read as data, and laid where the program's own text lays the table math/bits.deBruijn64tab, it returns true, and its input reads as it did.
-/
import Derived.WalkKit
import Derived.OrdersIn
import Derived.TacticsIn
import Derived.RangeFuncLeaves

/- A small logic over the heap alone for Go functions: values and frames, operations that only compute or read. -/
set_option linter.unusedVariables false
set_option linter.unusedSimpArgs false
namespace Go.Fw

abbrev H := Array Obj

def cell (h : H) (a : Addr) : Option Value :=
  match h[a.block]? with
  | some (.cells c _ _) => if a.spot.isSome then none else c[a.off]?
  | _ => none
def frz (h : H) (a : Addr) : Bool :=
  match h[a.block]? with
  | some (.cells _ _ (lo, hi)) => lo ≤ a.off && a.off < hi
  | _ => false
def setc (h : H) (a : Addr) (v : Value) : H :=
  h.modify a.block fun
    | .cells c elem frozen => .cells (if a.spot.isSome then c else c.setIfInBounds a.off v) elem frozen
    | o => o
theorem cell_w (w : World) (a : Addr) : w.cell? a = cell w.heap a := rfl
theorem frz_w (w : World) (a : Addr) : w.frozen? a = frz w.heap a := rfl
theorem setc_w (w : World) (a : Addr) (v : Value) : w.setCell a v = { w with heap := setc w.heap a v } := rfl

/-- All that lay in h lies in h' as it lay. -/
def Ext (h h' : H) : Prop := ∀ (b : Nat) (o : Obj), h[b]? = some o → h'[b]? = some o
theorem Ext.refl (h : H) : Ext h h := fun _ _ x => x
theorem Ext.trans {a b c : H} (x : Ext a b) (y : Ext b c) : Ext a c := fun i o z => y i o (x i o z)
theorem Ext.push (h : H) (o : Obj) : Ext h (h.push o) := by
  intro b x hb
  obtain ⟨hlt, _⟩ := Array.getElem?_eq_some_iff.1 hb
  rw [Array.getElem?_push]
  rw [if_neg (by omega)]
  exact hb
theorem Ext.cell {h h' : H} (e : Ext h h') {a : Addr} {v : Value} (hc : cell h a = some v) : Fw.cell h' a = some v := by
  unfold Fw.cell at *
  cases hb : h[a.block]? with
  | none => simp [hb] at hc
  | some o => rw [e _ _ hb]; rw [hb] at hc; exact hc

/-! ### Frames -/
inductive Slot where
  | non
  | v (x : Value)
  | lit (b : Bool)
  | prp (p : Prop) (d : Decidable p)
def Slot.val : Slot → Option Value
  | .non => none
  | .v x => some x
  | .lit b => some (.bool b)
  | .prp p d => some (.bool (@decide p d))
def Slot.agrees (s : Slot) (x : Value) : Prop := ∀ y, s.val = some y → y = x

structure Fr where
  s : List Slot
  ds : List Nat

def lget : List Slot → Nat → Slot
  | [], _ => .non
  | x :: _, 0 => x
  | _ :: l, n + 1 => lget l n
def lset : List Slot → Nat → Slot → List Slot
  | [], _, _ => []
  | _ :: l, 0, x => x :: l
  | y :: l, n + 1, x => y :: lset l n x
theorem lset_length (l : List Slot) (n : Nat) (x : Slot) : (lset l n x).length = l.length := by
  induction l generalizing n with
  | nil => rfl
  | cons y l ih => cases n <;> simp [lset, ih]
theorem lget_lset (l : List Slot) (n m : Nat) (x : Slot) : lget (lset l n x) m = if m = n ∧ n < l.length then x else lget l m := by
  induction l generalizing n m with
  | nil => simp [lset, lget]
  | cons y l ih =>
    cases n <;> cases m <;> simp [lset, lget, ih]
def Fr.get (f : Fr) (t : Nat) : Slot := lget f.s t
def Fr.set (f : Fr) (t : Nat) (x : Slot) : Fr := ⟨lset f.s t x, f.ds⟩
def Fr.put (f : Fr) (t : Option Nat) (x : Slot) : Fr := match t with | some d => f.set d x | none => f
def Fr.kill (f : Fr) : List Nat → Fr
  | [] => f
  | t :: ts => (f.set t .non).kill ts
theorem Fr.set_s (l : List Slot) (ds : List Nat) (t : Nat) (x : Slot) : Fr.set ⟨l, ds⟩ t x = ⟨lset l t x, ds⟩ := rfl

def mark (d : Nat) : Deferred := { target := .collected d, args := #[] }

structure Sim (f : Fr) (a : Act) : Prop where
  size : f.s.length = a.tmps.size
  defs : a.defers = f.ds.map mark
  vals : ∀ (i : Nat) (x : Value), (f.get i).val = some x → a.tmps.getD i undef = x

theorem getD_set (t : Array Value) (d i : Nat) (v : Value) : (t.setIfInBounds d v).getD i undef = if i = d ∧ d < t.size then v else t.getD i undef := by
  simp only [Array.getD_eq_getD_getElem?, Array.getElem?_setIfInBounds]
  by_cases h : d = i
  · subst h
    by_cases h2 : d < t.size
    · simp [h2]
    · simp [h2]
  · rw [if_neg h, if_neg (fun x => h x.1.symm)]

theorem Sim.put {f : Fr} {a : Act} (h : Sim f a) (d : Option Nat) {s : Slot} {v : Value} (hs : s.agrees v) : Sim (f.put d s) (a.put d v) := by
  cases d with
  | none => exact h
  | some d =>
    refine ⟨?_, h.defs, ?_⟩
    · simp [Fr.put, Fr.set, lset_length, Act.put, h.size]
    · intro i x hx
      simp only [Fr.put, Fr.set, Fr.get, lget_lset] at hx
      simp only [Act.put]
      rw [getD_set]
      rw [h.size] at hx
      by_cases hc : i = d ∧ d < a.tmps.size
      · rw [if_pos hc] at hx; rw [if_pos hc]; exact (hs _ hx).symm
      · rw [if_neg hc] at hx; rw [if_neg hc]; exact h.vals i x hx

theorem Sim.forget {f : Fr} {a : Act} (h : Sim f a) (t : Nat) : Sim (f.set t .non) a := by
  refine ⟨by simp [Fr.set, lset_length, h.size], h.defs, ?_⟩
  intro i x hx
  simp only [Fr.set, Fr.get, lget_lset] at hx
  split at hx
  · cases hx
  · exact h.vals i x hx
theorem Sim.kill {f : Fr} {a : Act} (h : Sim f a) (ts : List Nat) : Sim (f.kill ts) a := by
  induction ts generalizing f with
  | nil => exact h
  | cons t ts ih => exact ih (h.forget t)
/-- A slot whose value is known may be spelled otherwise. -/
theorem Sim.respell {f : Fr} {a : Act} (h : Sim f a) (t : Nat) {s : Slot} (hs : ∀ y, s.val = some y → (f.get t).val = some y) : Sim (f.set t s) a := by
  refine ⟨by simp [Fr.set, lset_length, h.size], h.defs, ?_⟩
  intro i x hx
  simp only [Fr.set, Fr.get, lget_lset] at hx
  split at hx
  · rename_i hc; obtain ⟨rfl, _⟩ := hc; exact h.vals _ x (hs _ hx)
  · exact h.vals i x hx

/-! ### Operands -/
def Fr.sl (f : Fr) : Operand → Slot
  | .tmp t => f.get t
  | .const (.bool b) => .lit b
  | .const v => .v v
  | .global g => .v (.pointer (some ⟨g, 0, none⟩))
  | .func g => .v (.func (.func g) #[] #[])
def Fr.ov (f : Fr) (x : Operand) : Option Value := (f.sl x).val
theorem Sim.ev {f : Fr} {a : Act} (h : Sim f a) {x : Operand} {v : Value} (hx : f.ov x = some v) : a.eval x = v := by
  unfold Fr.ov at hx
  cases x with
  | tmp t => exact h.vals t v hx
  | const c => cases c <;> simp [Fr.sl, Slot.val] at hx <;> exact hx
  | global g => simp [Fr.sl, Slot.val] at hx; exact hx
  | func g => simp [Fr.sl, Slot.val] at hx; exact hx
theorem Sim.sl {f : Fr} {a : Act} (h : Sim f a) (x : Operand) : (f.sl x).agrees (a.eval x) := fun _ hy => (h.ev hy).symm

def kq : IntKind → IntKind → Bool
  | .i8, .i8 | .i16, .i16 | .i32, .i32 | .i64, .i64 | .u8, .u8 | .u16, .u16 | .u32, .u32 | .u64, .u64 => true
  | _, _ => false
theorem kq_eq {a b : IntKind} (h : kq a b = true) : a = b := by cases a <;> cases b <;> first | rfl | cases h

/-- Two values are the same, for constants: whole numbers, texts, bools, nils, structs of these. -/
def veq0 : Value → Value → Bool
  | .bool a, .bool b => a == b
  | .int k a, .int j b => kq k j && a == b
  | .string a, .string b => a.data.toList == b.data.toList
  | .pointer none, .pointer none => true
  | .pointer (some a), .pointer (some b) => a == b
  | .slice none a b, .slice none c d => a == c && b == d
  | .map none, .map none => true
  | .chan none, .chan none => true
  | .nilFunc, .nilFunc => true
  | .nilIface, .nilIface => true
  | .func (.func f) ⟨[]⟩ ⟨[]⟩, .func (.func g) ⟨[]⟩ ⟨[]⟩ => f == g
  | .tuple ⟨[]⟩, .tuple ⟨[]⟩ => true
  | _, _ => false
theorem veq0_eq {a b : Value} (h : veq0 a b = true) : a = b := by
  unfold veq0 at h
  split at h <;> first | rfl | (simp at h; done) | skip
  · simp at h; rw [h]
  · simp at h; rw [kq_eq h.1, h.2]
  · rename_i x y; simp at h
    cases x; cases y; simp at h; rw [h]
  · simp at h; rw [h]
  · simp at h; rw [h.1, h.2]
  · simp at h; rw [h]
def veqL : List Value → List Value → Bool
  | [], [] => true
  | a :: l, b :: m => veq0 a b && veqL l m
  | _, _ => false
theorem veqL_eq {l m : List Value} (h : veqL l m = true) : l = m := by
  induction l generalizing m with
  | nil => cases m <;> first | rfl | cases h
  | cons a l ih =>
    cases m with
    | nil => cases h
    | cons b m => simp [veqL] at h; rw [veq0_eq h.1, ih h.2]
def veq : Value → Value → Bool
  | .agg ⟨a⟩, .agg ⟨b⟩ => veqL a b
  | .iface t (.agg ⟨a⟩), .iface u (.agg ⟨b⟩) => t == u && veqL a b
  | .iface t a, .iface u b => t == u && veq0 a b
  | a, b => veq0 a b
theorem veq_eq {a b : Value} (h : veq a b = true) : a = b := by
  unfold veq at h
  split at h
  · rw [veqL_eq h]
  · simp at h; rw [h.1, veqL_eq h.2]
  · simp at h; rw [h.1, veq0_eq h.2]
  · exact veq0_eq h
def oeq : Operand → Operand → Bool
  | .tmp a, .tmp b => a == b
  | .const a, .const b => veq a b
  | .global a, .global b => a == b
  | .func a, .func b => a == b
  | _, _ => false
theorem oeq_eq {a b : Operand} (h : oeq a b = true) : a = b := by
  unfold oeq at h
  split at h
  · simp at h; rw [h]
  · rw [veq_eq h]
  · simp at h; rw [h]
  · simp at h; rw [h]
  · cases h
def oeqL : List Operand → List Operand → Bool
  | [], [] => true
  | a :: l, b :: m => oeq a b && oeqL l m
  | _, _ => false
theorem oeqL_eq {l m : List Operand} (h : oeqL l m = true) : l = m := by
  induction l generalizing m with
  | nil => cases m <;> first | rfl | cases h
  | cons a l ih =>
    cases m with
    | nil => cases h
    | cons b m => simp [oeqL] at h; rw [oeq_eq h.1, ih h.2]
end Go.Fw

/- Operations that only compute or read: what they come to, over the heap alone. -/
set_option linter.unusedVariables false
set_option linter.unusedSimpArgs false
namespace Go.Fw

inductive Leaf where
  | int (k : IntKind) | bool | str | slice | ptr | map | any
  deriving DecidableEq

def Leaf.ex : Leaf → (Value → Prop) → Prop
  | .int k, K => ∃ n : Int, K (.int k n)
  | .bool, K => ∃ b : Bool, K (.bool b)
  | .str, K => ∃ s : ByteArray, K (.string s)
  | .slice, K => ∃ (a : Option Addr) (n c : Nat), K (.slice a n c)
  | .ptr, K => ∃ a : Option Addr, K (.pointer a)
  | .map, K => ∃ r : Option Nat, K (.map r)
  | .any, K => ∃ v : Value, K v
theorem Leaf.ex_some {l : Leaf} {K : Value → Prop} (h : l.ex K) : ∃ v, K v := by
  cases l <;> simp only [Leaf.ex] at h
  · obtain ⟨n, h⟩ := h; exact ⟨_, h⟩
  · obtain ⟨n, h⟩ := h; exact ⟨_, h⟩
  · obtain ⟨n, h⟩ := h; exact ⟨_, h⟩
  · obtain ⟨a, n, c, h⟩ := h; exact ⟨_, h⟩
  · obtain ⟨n, h⟩ := h; exact ⟨_, h⟩
  · obtain ⟨n, h⟩ := h; exact ⟨_, h⟩
  · exact h

def lo : IntKind → Int
  | .i8 => -128 | .i16 => -32768 | .i32 => -2147483648 | .i64 => -9223372036854775808 | _ => 0
def hi : IntKind → Int
  | .i8 => 127 | .i16 => 32767 | .i32 => 2147483647 | .i64 => 9223372036854775807
  | .u8 => 255 | .u16 => 65535 | .u32 => 4294967295 | .u64 => 18446744073709551615
structure InR (k : IntKind) (n : Int) : Prop where
  lo : Fw.lo k ≤ n
  hi : n ≤ Fw.hi k
theorem wrap_in {k : IntKind} {n : Int} (h : InR k n) : k.wrap n = n := by
  obtain ⟨h1, h2⟩ := h
  cases k <;> simp only [Fw.lo, Fw.hi] at h1 h2 <;> simp [IntKind.wrap, IntKind.bits, IntKind.signed] <;> (try split) <;> omega

def VOp.arF : BinOp → Int → Int → Int
  | .add, a, b => a + b
  | .sub, a, b => a - b
  | .mul, a, b => a * b
  | _, a, _ => a
def isAr : BinOp → Bool
  | .add | .sub | .mul => true
  | _ => false
def isBt : BinOp → Bool
  | .and | .or | .xor | .andNot => true
  | _ => false
/-- The bits of two whole numbers. -/
def bitsF (op : BinOp) (k : IntKind) (x y : Int) : Int :=
  match op with
  | .and => k.wrap (BitVec.ofInt k.bits x &&& BitVec.ofInt k.bits y).toNat
  | .or => k.wrap (BitVec.ofInt k.bits x ||| BitVec.ofInt k.bits y).toNat
  | .xor => k.wrap (BitVec.ofInt k.bits x ^^^ BitVec.ofInt k.bits y).toNat
  | _ => k.wrap (BitVec.ofInt k.bits x &&& ~~~ BitVec.ofInt k.bits y).toNat
def shF (op : BinOp) (k : IntKind) (x y : Int) : Int :=
  match op with
  | .shl => k.wrap (x * 2 ^ (min y.toNat k.bits))
  | _ => x.fdiv (2 ^ (min y.toNat k.bits))
def isCmp : BinOp → Bool
  | .eql | .neq | .lss | .leq | .gtr | .geq => true
  | _ => false
def cmpS : BinOp → Int → Int → Slot
  | .eql, a, b => .prp (a = b) inferInstance
  | .neq, a, b => .prp (¬ a = b) inferInstance
  | .lss, a, b => .prp (a < b) inferInstance
  | .leq, a, b => .prp (a ≤ b) inferInstance
  | .gtr, a, b => .prp (b < a) inferInstance
  | .geq, a, b => .prp (b ≤ a) inferInstance
  | _, _, _ => .non
def cstS : BinOp → ByteArray → ByteArray → Slot
  | .eql, a, b => .prp (a.toList = b.toList) inferInstance
  | .neq, a, b => .prp (¬ a.toList = b.toList) inferInstance
  | _, _, _ => .non
def andS (p : Prop) (d : Decidable p) (K : Slot → Prop) : Slot → Prop
  | .prp q e => K (.prp (p ∧ q) (@instDecidableAnd _ _ d e))
  | .lit true => K (.prp p d)
  | _ => False
def eqS : List Leaf → List Value → List Value → (Slot → Prop) → Prop
  | [], [], [], K => K (.lit true)
  | .int _ :: ls, .int k a :: l, .int j b :: m, K => (match kq k j with
    | true => eqS ls l m (andS (a = b) inferInstance K)
    | false => False)
  | .bool :: ls, .bool a :: l, .bool b :: m, K => eqS ls l m (andS (a = b) inferInstance K)
  | .str :: ls, .string a :: l, .string b :: m, K => eqS ls l m (andS (a.toList = b.toList) inferInstance K)
  | _, _, _, _ => False
def notS : Slot → Slot
  | .prp p d => .prp (¬ p) (@instDecidableNot p d)
  | .lit b => .lit (!b)
  | .v (.bool b) => .v (.bool (!b))
  | _ => .non
inductive NK where
  | ptr | slice | map | iface | func
def nilS : NK → Value → (Slot → Prop) → Prop
  | .ptr, .pointer a, K => K (.prp (a = none) inferInstance)
  | .slice, .slice a _ _, K => K (.prp (a = none) inferInstance)
  | .map, .map a, K => K (.prp (a = none) inferInstance)
  | .iface, .nilIface, K => K (.lit true)
  | .iface, .iface _ _, K => K (.lit false)
  | .func, .nilFunc, K => K (.lit true)
  | .func, .func _ _ _, K => K (.lit false)
  | _, _, _ => False

inductive VOp where
  | mov (x : Operand)
  | pick (c a b : Operand)
  | ar (op : BinOp) (nw : Bool) (x y : Operand)
  | dv (op : BinOp) (x y : Operand)
  | dt (op : BinOp) (x y : Operand)
  | bt (op : BinOp) (x y : Operand)
  | sh (op : BinOp) (x y : Operand)
  | cmp (op : BinOp) (x y : Operand)
  | cmb (op : BinOp) (x y : Operand)
  | cms (op : BinOp) (x y : Operand)
  | isn (op : BinOp) (left : Bool) (k : NK) (x : Operand)
  | eqa (op : BinOp) (ls : List Leaf) (x y : Operand)
  | cat (x y : Operand)
  | ng (x : Operand)
  | no (x : Operand)
  | len (x : Operand)
  | lns (x : Operand)
  | cap (x : Operand)
  | ld (l : Leaf) (x : Operand)
  | lda (ls : List Leaf) (x : Operand)
  | bld (zero : List Value) (parts : List (Nat × Nat × Operand))
  | fld (off : Nat) (n : Option Nat) (x : Operand)
  | fad (off : Nat) (x : Operand)
  | idx (size : Nat) (x i : Operand)
  | idr (len size : Nat) (x i : Operand)
  | ixs (x i : Operand)
  | slc (size : Nat) (x : Operand) (lo hi : Option Operand)
  | sls (x : Operand) (lo hi : Option Operand)
  | slr (len size : Nat) (x : Operand) (lo hi : Option Operand)
  | cvi (k : IntKind) (x : Operand)
  | ifc (t : TypeId) (x : Operand)
  | ext (x : Operand) (i : Nat)
  | fnv (fn : Fn) (first captured : List Operand)
  | nck (x : Operand)
  | mnx (max : Bool) (x y : Operand)
  | ldf (g : FuncId) (caps : List Operand) (x : Operand)

/-- Cells read one behind the other. -/
def lds (h : H) (b o : Nat) : List Leaf → (List Value → Prop) → Prop
  | [], K => K []
  | l :: ls, K => l.ex fun v => cell h ⟨b, o, none⟩ = some v ∧ lds h b (o + 1) ls fun vs => K (v :: vs)

def setAt : List Value → Nat → List Value → List Value
  | cs, _, [] => cs
  | [], _, _ => []
  | _ :: cs, 0, v :: vs => v :: setAt cs 0 vs
  | c :: cs, n + 1, vs => c :: setAt cs n vs
def valCells : Value → List Value
  | .agg ⟨l⟩ => l
  | v => [v]
def fillS (f : Fr) : List Value → List (Nat × Nat × Operand) → (List Value → Prop) → Prop
  | cs, [], K => K cs
  | cs, (off, n, x) :: ps, K => match f.ov x with
    | some v => (valCells v).length = n ∧ off + n ≤ cs.length ∧ fillS f (setAt cs off (valCells v)) ps K
    | none => False
def nthV : List Value → Nat → Option Value
  | [], _ => none
  | v :: _, 0 => some v
  | _ :: l, n + 1 => nthV l n
def takeV : List Value → Nat → Nat → List Value
  | _, _, 0 => []
  | [], _, _ => []
  | v :: l, 0, n + 1 => v :: takeV l 0 n
  | _ :: l, m + 1, n => takeV l m n
def ovs (f : Fr) : List Operand → (List Value → Prop) → Prop
  | [], K => K []
  | x :: l, K => match f.ov x with
    | some v => ovs f l fun vs => K (v :: vs)
    | none => False
/-- The bounds of a cut. -/
def cutB (f : Fr) (len cap : Nat) (l h : Option Operand) (K : Int → Int → Prop) : Prop :=
  match h with
  | none => (match l with
    | none => K 0 len
    | some x => match f.ov x with
      | some (.int _ a) => 0 ≤ a ∧ a ≤ len ∧ K a len
      | _ => False)
  | some y => match f.ov y with
    | some (.int _ b) => 0 ≤ b ∧ b ≤ cap ∧ (match l with
      | none => K 0 b
      | some x => match f.ov x with
        | some (.int _ a) => 0 ≤ a ∧ a ≤ b ∧ K a b
        | _ => False)
    | _ => False

/-- A pointer that is none of nil's, at the head or inside of a block. -/
def onP : Option Addr → (Nat → Nat → Prop) → Prop
  | some ⟨b, o, none⟩, K => K b o
  | _, _ => False
theorem onP_ex {p : Option Addr} {K : Nat → Nat → Prop} (h : onP p K) : ∃ b o, p = some ⟨b, o, none⟩ ∧ K b o := by
  unfold onP at h
  split at h
  · exact ⟨_, _, rfl, h⟩
  · exact h.elim
def VOp.val : VOp → Fr → H → (Slot → Prop) → Prop
  | .mov x, f, _, K => K (f.sl x)
  | .pick c a b, f, _, K => match f.sl c with
    | .lit t => K (bif t then f.sl a else f.sl b)
    | .prp p _ => (p → K (f.sl a)) ∧ (¬ p → K (f.sl b))
    | .v (.bool t) => (t = true → K (f.sl a)) ∧ (t = false → K (f.sl b))
    | _ => False
  | .ar op nw x y, f, _, K => match f.ov x, f.ov y with
    | some (.int k a), some (.int j b) => match kq k j, nw with
      | true, true => InR k (arF op a b) ∧ K (.v (.int k (arF op a b)))
      | true, false => K (.v (.int k (k.wrap (arF op a b))))
      | false, _ => False
    | _, _ => False
  | .dv op x y, f, _, K => match f.ov x, f.ov y with
    | some (.int k a), some (.int j b) => match kq k j with
      | true => 0 ≤ a ∧ a ≤ hi k ∧ 0 < b ∧ K (.v (.int k (match op with | .quo => a / b | _ => a % b)))
      | false => False
    | _, _ => False
  | .dt op x y, f, _, K => match f.ov x, f.ov y with
    | some (.int k a), some (.int j b) => match kq k j with
      | true => b ≠ 0 ∧ InR k (match op with | .quo => a.tdiv b | _ => 0) ∧ K (.v (.int k (match op with | .quo => a.tdiv b | _ => a.tmod b)))
      | false => False
    | _, _ => False
  | .bt op x y, f, _, K => match f.ov x, f.ov y with
    | some (.int k a), some (.int j b) => match kq k j with
      | true => K (.v (.int k (bitsF op k a b)))
      | false => False
    | _, _ => False
  | .sh op x y, f, _, K => match f.ov x, f.ov y with
    | some (.int k a), some (.int _ b) => 0 ≤ b ∧ K (.v (.int k (shF op k a b)))
    | _, _ => False
  | .cmp op x y, f, _, K => match f.ov x, f.ov y with
    | some (.int k a), some (.int j b) => match kq k j with
      | true => K (cmpS op a b)
      | false => False
    | _, _ => False
  | .cmb op x y, f, _, K => match f.ov x, f.ov y with
    | some (.bool a), some (.bool b) => K (match op with | .eql => .prp (a = b) inferInstance | _ => .prp (¬ a = b) inferInstance)
    | _, _ => False
  | .cms op x y, f, _, K => match f.ov x, f.ov y with
    | some (.string a), some (.string b) => K (cstS op a b)
    | _, _ => False
  | .isn op _ k x, f, _, K => match f.ov x with
    | some v => nilS k v fun s => K (match op with | .eql => s | _ => notS s)
    | _ => False
  | .eqa op ls x y, f, _, K => match f.ov x, f.ov y with
    | some (.agg ⟨a⟩), some (.agg ⟨b⟩) => eqS ls a b fun s => K (match op with | .eql => s | _ => notS s)
    | _, _ => False
  | .cat x y, f, _, K => match f.ov x, f.ov y with
    | some (.string a), some (.string b) => a.size + b.size ≤ 9223372036854775807 ∧ K (.v (.string (a ++ b)))
    | _, _ => False
  | .ng x, f, _, K => match f.ov x with
    | some (.int k a) => K (.v (.int k (k.wrap (-a))))
    | _ => False
  | .no x, f, _, K => match f.sl x with
    | .lit b => K (.lit (!b))
    | .prp p d => K (.prp (¬ p) (@instDecidableNot p d))
    | .v (.bool b) => K (.v (.bool (!b)))
    | _ => False
  | .len x, f, h, K => match f.ov x with
    | some (.slice _ n _) => K (.v (.int .i64 n))
    | _ => False
  | .lns x, f, h, K => match f.ov x with
    | some (.string s) => K (.v (.int .i64 s.size))
    | _ => False
  | .cap x, f, _, K => match f.ov x with
    | some (.slice _ _ c) => K (.v (.int .i64 c))
    | _ => False
  | .ld l x, f, h, K => match f.ov x with
    | some (.pointer p) => onP p fun b o => l.ex fun v => cell h ⟨b, o, none⟩ = some v ∧ K (.v v)
    | _ => False
  | .lda ls x, f, h, K => match f.ov x with
    | some (.pointer p) => onP p fun b o => lds h b o ls fun vs => K (.v (.agg ⟨vs⟩))
    | _ => False
  | .bld z ps, f, _, K => fillS f z ps fun vs => K (.v (.agg ⟨vs⟩))
  | .fld off n x, f, _, K => match f.ov x with
    | some (.agg ⟨l⟩) => (match n with
      | some n => off + n ≤ l.length ∧ K (.v (.agg ⟨takeV l off n⟩))
      | none => match nthV l off with | some v => K (.v v) | none => False)
    | _ => False
  | .fad off x, f, _, K => match f.ov x with
    | some (.pointer p) => onP p fun b o => K (.v (.pointer (some ⟨b, o + off, none⟩)))
    | _ => False
  | .idx size x i, f, _, K => match f.ov x, f.ov i with
    | some (.slice p n _), some (.int _ i) => 0 ≤ i ∧ i < n ∧ onP p fun b o => K (.v (.pointer (some ⟨b, o + i.toNat * size, none⟩)))
    | _, _ => False
  | .idr ln size x i, f, _, K => match f.ov x, f.ov i with
    | some (.pointer p), some (.int _ i) => 0 ≤ i ∧ i < ln ∧ onP p fun b o => K (.v (.pointer (some ⟨b, o + i.toNat * size, none⟩)))
    | _, _ => False
  | .ixs x i, f, _, K => match f.ov x, f.ov i with
    | some (.string s), some (.int _ i) => 0 ≤ i ∧ ∃ c, s[i.toNat]? = some c ∧ K (.v (.int .u8 c.toNat))
    | _, _ => False
  | .slc size x l u, f, _, K => match f.ov x with
    | some (.slice p n c) => n ≤ c ∧ cutB f n c l u fun a b => ∃ q, (match l with
        | none => q = p
        | some _ => (a = c → q = p) ∧ (a < c → q = p.map fun x => x.add (a.toNat * size))) ∧ K (.v (.slice q (b - a).toNat (c - a).toNat))
    | _ => False
  | .sls x l u, f, _, K => match f.ov x with
    | some (.string s) => cutB f s.size s.size l u fun a b => K (.v (.string (s.extract a.toNat b.toNat)))
    | _ => False
  | .slr ln size x l u, f, _, K => match f.ov x with
    | some (.pointer p) => onP p fun b o => cutB f ln ln l u fun a e => ∃ q, (match l with
        | none => q = (⟨b, o, none⟩ : Addr)
        | some _ => (a = ln → q = ⟨b, o, none⟩) ∧ (a < ln → q = ⟨b, o + a.toNat * size, none⟩)) ∧ K (.v (.slice (some q) (e - a).toNat (ln - a).toNat))
    | _ => False
  | .cvi k x, f, _, K => match f.ov x with
    | some (.int _ a) => InR k a ∧ K (.v (.int k a))
    | _ => False
  | .ifc t x, f, _, K => match f.ov x with
    | some v => K (.v (.iface t v))
    | _ => False
  | .ext x i, f, _, K => match f.ov x with
    | some (.tuple ⟨l⟩) => (match nthV l i with | some v => K (.v v) | none => False)
    | _ => False
  | .fnv fn fi ca, f, _, K => ovs f fi fun a => ovs f ca fun b => K (.v (.func fn ⟨a⟩ ⟨b⟩))
  | .nck x, f, _, K => match f.ov x with
    | some (.pointer p) => p ≠ none ∧ K (.v (.pointer p))
    | some (.func (.func g) a b) => K (.v (.func (.func g) a b))
    | some (.iface t v) => K (.v (.iface t v))
    | _ => False
  | .mnx mx x y, f, _, K => match f.ov x, f.ov y with
    | some (.int k a), some (.int _ b) => K (.v (.int k (bif mx then (if b > a then b else a) else (if b < a then b else a))))
    | _, _ => False
  | .ldf g caps x, f, h, K => ovs f caps fun cs => match f.ov x with
    | some (.pointer p) => onP p fun b o => cell h ⟨b, o, none⟩ = some (.func (.func g) ⟨[]⟩ ⟨cs⟩) ∧ K (.v (.func (.func g) ⟨[]⟩ ⟨cs⟩))
    | _ => False


/-! ### The check -/
def desc (P : Program) (t : TypeId) : Option TypeDesc := P.underlying t
def scalarD : Option TypeDesc → Bool
  | some (.struct _) | some (.array _ _) | none => false
  | _ => true
def aggD : Option TypeDesc → Bool
  | some (.struct _) | some (.array _ _) => true
  | _ => false
def sizeD (P : Program) (t : TypeId) : Option Nat := (P.info? t).map (·.size)
def zeroD (P : Program) (t : TypeId) : Option Value := (P.info? t).bind (·.zero)
def oeqO : Option Operand → Option Operand → Bool
  | none, none => true
  | some a, some b => oeq a b
  | _, _ => false
theorem oeqO_eq {a b : Option Operand} (h : oeqO a b = true) : a = b := by
  cases a <;> cases b <;> first | rfl | cases h | (simp only [oeqO] at h; rw [oeq_eq h])
def isNilC : NK → Operand → Bool
  | .ptr, .const (.pointer none) | .slice, .const (.slice none 0 0) | .map, .const (.map none) | .iface, .const .nilIface | .func, .const .nilFunc => true
  | _, _ => false
def nkD : NK → Option TypeDesc → Bool
  | .ptr, some (.pointer _) | .slice, some (.slice _) | .map, some (.map _ _) | .iface, some (.interface _) | .func, some (.func _ _ _) => true
  | _, _ => false
def isDv : BinOp → Bool
  | .quo | .rem => true
  | _ => false
def isSh : BinOp → Bool
  | .shl | .shr => true
  | _ => false
def isEq : BinOp → Bool
  | .eql | .neq => true
  | _ => false
/-- Fields that count, whole numbers, bools and texts: where they lie. -/
def leafD : Leaf → Option TypeDesc → Bool
  | .int _, some (.int _) | .bool, some .bool | .str, some .string => true
  | _, _ => false
def eqFields (P : Program) : List Field → List Leaf → Nat → Bool
  | [], [], _ => true
  | f :: fs, l :: ls, off => f.name != "_" && f.offset == off && leafD l (P.underlying f.type) && eqFields P fs ls (off + 1)
  | _, _, _ => false
def placesOk (P : Program) (fs : Array Field) : List (Nat × Operand) → List (Nat × Nat × Operand) → Bool
  | [], [] => true
  | (i, x) :: l, (off, n, y) :: m => oeq x y && (match fs[i]? with | some f => f.offset == off && sizeD P f.type == some n | none => false) && placesOk P fs l m
  | _, _ => false
def placesOkA (size : Nat) : List (Nat × Operand) → List (Nat × Nat × Operand) → Bool
  | [], [] => true
  | (i, x) :: l, (off, n, y) :: m => oeq x y && i * size == off && size == n && placesOkA size l m
  | _, _ => false
def allSized (P : Program) : List Field → Bool
  | [] => true
  | f :: fs => (sizeD P f.type).isSome && allSized P fs

def bopq : BinOp → BinOp → Bool
  | .add, .add | .sub, .sub | .mul, .mul | .quo, .quo | .rem, .rem | .and, .and | .or, .or | .xor, .xor | .shl, .shl | .shr, .shr | .andNot, .andNot => true
  | .eql, .eql | .neq, .neq | .lss, .lss | .leq, .leq | .gtr, .gtr | .geq, .geq => true
  | _, _ => false
theorem bopq_eq {a b : BinOp} (h : bopq a b = true) : a = b := by cases a <;> cases b <;> first | rfl | cases h

def chkV (P : Program) : Op → VOp → Bool
  | .move x, .mov y | .assign x, .mov y => oeq x y
  | .pick c a b, .pick c' a' b' => oeq c c' && oeq a a' && oeq b b'
  | .binOp op _ x y _, .ar op' _ x' y' => bopq op op' && isAr op && oeq x x' && oeq y y'
  | .binOp op _ x y _, .dv op' x' y' => bopq op op' && isDv op && oeq x x' && oeq y y'
  | .binOp op _ x y _, .dt op' x' y' => bopq op op' && isDv op && oeq x x' && oeq y y'
  | .binOp op _ x y _, .bt op' x' y' => bopq op op' && isBt op && oeq x x' && oeq y y'
  | .binOp op _ x y _, .sh op' x' y' => bopq op op' && isSh op && oeq x x' && oeq y y'
  | .binOp op _ x y _, .cmp op' x' y' => bopq op op' && isCmp op && oeq x x' && oeq y y'
  | .binOp op t x y _, .cmb op' x' y' => bopq op op' && isEq op && (match desc P t with | some .bool => true | _ => false) && oeq x x' && oeq y y'
  | .binOp op _ x y _, .cms op' x' y' => bopq op op' && isEq op && oeq x x' && oeq y y'
  | .binOp op t x y _, .isn op' left k x' => bopq op op' && isEq op && nkD k (desc P t) && (bif left then isNilC k x && oeq y x' else isNilC k y && oeq x x')
  | .binOp op t x y _, .eqa op' ls x' y' => bopq op op' && isEq op &&
      (match desc P t with | some (.struct fs) => eqFields P fs.toList ls 0 && !P.stoodInHeld t && !P.eqGuardType P.depth t | _ => false) && oeq x x' && oeq y y'
  | .binOp op _ x y _, .cat x' y' => bopq op .add && oeq x x' && oeq y y'
  | .unOp op _ x, .ng x' => (match op with | .neg => true | _ => false) && oeq x x'
  | .unOp op _ x, .no x' => (match op with | .not => true | _ => false) && oeq x x'
  | .call c, .len x' => (match c.callee with | .builtin .len => true | _ => false) && (match c.args, c.argTypes with | ⟨[x]⟩, ⟨[t]⟩ => oeq x x' && (match desc P t with | some (.slice _) => true | _ => false) | _, _ => false)
  | .call c, .lns x' => (match c.callee with | .builtin .len => true | _ => false) && (match c.args, c.argTypes with | ⟨[x]⟩, ⟨[t]⟩ => oeq x x' && (match desc P t with | some .string => true | _ => false) | _, _ => false)
  | .call c, .cap x' => (match c.callee with | .builtin .cap => true | _ => false) && (match c.args, c.argTypes with | ⟨[x]⟩, ⟨[t]⟩ => oeq x x' && (match desc P t with | some (.slice _) => true | _ => false) | _, _ => false)
  | .call c, .mnx mx x' y' => (match c.callee with | .builtin .max => mx | .builtin .min => !mx | _ => false) && (match c.args with | ⟨[x, y]⟩ => oeq x x' && oeq y y' | _ => false)
  | .load t x, .ld _ x' => scalarD (desc P t) && oeq x x'
  | .load t x, .lda ls x' => aggD (desc P t) && sizeD P t == some ls.length && oeq x x'
  | .build t ps, .bld z ps' => (match zeroD P t with | some v => veqL (valCells v) z | none => false) && (match desc P t with
      | some (.struct fs) => allSized P fs.toList && placesOk P fs ps.toList ps'
      | some (.array _ e) => (match sizeD P e with | some n => placesOkA n ps.toList ps' | none => false)
      | _ => false)
  | .field t x j, .fld off n x' => oeq x x' && (match desc P t with
      | some (.struct fs) => (match fs[j]? with
        | some g => g.offset == off && (match n with
          | some n => aggD (desc P g.type) && sizeD P g.type == some n
          | none => scalarD (desc P g.type))
        | none => false)
      | _ => false)
  | .fieldAddr t x j, .fad off x' => oeq x x' && (match desc P t with
      | some (.struct fs) => (match fs[j]? with
        | some g => g.offset == off && (match sizeD P g.type with | some (_ + 1) => true | _ => false)
        | none => false)
      | _ => false)
  | .indexAddr t x i, .idx size x' i' => oeq x x' && oeq i i' && (match desc P t with | some (.slice e) => sizeD P e == some size | _ => false)
  | .indexAddr t x i, .idr ln size x' i' => oeq x x' && oeq i i' && (match desc P t with | some (.array n e) => n == ln && sizeD P e == some size | _ => false)
  | .index t x i, .ixs x' i' => oeq x x' && oeq i i' && (match desc P t with | some .string => true | _ => false)
  | .slice t x l h m, .slc size x' l' h' => oeq x x' && oeqO l l' && oeqO h h' && m.isNone && (match desc P t with | some (.slice e) => sizeD P e == some size | _ => false)
  | .slice t x l h m, .sls x' l' h' => oeq x x' && oeqO l l' && oeqO h h' && m.isNone && (match desc P t with | some .string => true | _ => false)
  | .slice t x l h m, .slr ln size x' l' h' => oeq x x' && oeqO l l' && oeqO h h' && m.isNone && (match desc P t with | some (.array n e) => n == ln && sizeD P e == some size | _ => false)
  | .convert s d x, .cvi k x' => oeq x x' && (match desc P d with | some (.int j) => kq j k | _ => false) && (desc P s).isSome
  | .makeInterface t x, .ifc t' x' => oeq x x' && t == t' && (match desc P t with | some (.interface _) | none => false | _ => true)
  | .extract x i, .ext x' i' => oeq x x' && i == i'
  | .makeFunc fn fi ca, .fnv fn' fi' ca' => fn == fn' && oeqL fi.toList fi' && oeqL ca.toList ca'
  | .nilCheck x, .nck x' => oeq x x'
  | .load t x, .ldf _ _ x' => scalarD (desc P t) && oeq x x'
  | _, _ => false
end Go.Fw

/- Operations that only compute or read: what is reckoned is what they come to. -/
set_option linter.unusedVariables false
set_option linter.unusedSimpArgs false
namespace Go.Fw
variable {P : Program}

theorem run_und {t : TypeId} {d : TypeDesc} (h : P.underlying t = some d) (w : World) : (underlying t).run P w = .ok d w := by
  simp [underlying, h]
theorem run_agg1 {t : TypeId} (h : aggD (desc P t) = true) (w : World) : (isAgg t).run P w = .ok true w := by
  unfold desc at h
  cases hd : P.underlying t with
  | none => rw [hd] at h; cases h
  | some d => rw [hd] at h; cases d <;> simp [aggD] at h <;> simp [isAgg, run_und hd]
theorem run_agg0 {t : TypeId} (h : scalarD (desc P t) = true) (w : World) : (isAgg t).run P w = .ok false w := by
  unfold desc at h
  cases hd : P.underlying t with
  | none => rw [hd] at h; cases h
  | some d => rw [hd] at h; cases d <;> simp [scalarD] at h <;> simp [isAgg, run_und hd]
theorem run_size {t : TypeId} {n : Nat} (h : sizeD P t = some n) (w : World) : (sizeOf t).run P w = .ok n w := by
  unfold sizeD at h
  cases hi : P.info? t with
  | none => rw [hi] at h; cases h
  | some i => rw [hi] at h; simp at h; subst h; simp [sizeOf, typeInfo, hi]
theorem run_zero {t : TypeId} {v : Value} (h : zeroD P t = some v) (w : World) : (zeroValue t).run P w = .ok v w := by
  unfold zeroD at h
  cases hi : P.info? t with
  | none => rw [hi] at h; cases h
  | some i => rw [hi] at h; simp at h; simp [zeroValue, typeInfo, hi, h]

theorem add_none (b o n : Nat) : (⟨b, o, none⟩ : Addr).add n = ⟨b, o + n, none⟩ := by
  unfold Addr.add; split
  · subst_vars; rfl
  · rfl

def V (P : Program) (o : Oper) (h : H) (a : Act) (K : Slot → Prop) : Prop :=
  ∃ v s, Slot.agrees s v ∧ K s ∧ ∀ w : World, Ext h w.heap → (execOp a.eval o).run P w = .ok (.value v) w

theorem agrees_v (v : Value) : (Slot.v v).agrees v := fun _ h => by simp [Slot.val] at h; exact h.symm
theorem agrees_lit (b : Bool) : (Slot.lit b).agrees (.bool b) := fun _ h => by simp [Slot.val] at h; exact h.symm
theorem agrees_non (v : Value) : Slot.non.agrees v := fun _ h => by simp [Slot.val] at h
theorem agrees_prp (p : Prop) (d : Decidable p) (b : Bool) (h : b = @decide p d) : (Slot.prp p d).agrees (.bool b) := fun _ x => by
  simp [Slot.val] at x; rw [h]; exact x.symm

variable {o : Oper} {f : Fr} {h : H} {a : Act} {K : Slot → Prop}

theorem V.mk (v : Value) (s : Slot) (h1 : Slot.agrees s v) (h2 : K s) (h3 : ∀ w : World, Ext h w.heap → (execOp a.eval o).run P w = .ok (.value v) w) : V P o h a K := ⟨v, s, h1, h2, h3⟩

theorem cmpS_agrees (op : BinOp) (x y : Int) (hop : isCmp op = true) : ∃ b : Bool, (cmpS op x y).agrees (.bool b) ∧ ∀ w, (Op.intCmp op x y).run P w = .ok (.bool b) w := by
  cases op <;> first | cases hop | skip
  · exact ⟨x == y, agrees_prp _ _ _ (by rw [Bool.eq_iff_iff]; simp), fun w => rfl⟩
  · exact ⟨x != y, agrees_prp _ _ _ (by rw [Bool.eq_iff_iff]; simp), fun w => rfl⟩
  · exact ⟨_, agrees_prp _ _ _ rfl, fun w => rfl⟩
  · exact ⟨_, agrees_prp _ _ _ rfl, fun w => rfl⟩
  · exact ⟨_, agrees_prp _ _ _ rfl, fun w => rfl⟩
  · exact ⟨_, agrees_prp _ _ _ rfl, fun w => rfl⟩

theorem run_ands (s : Sem Value) (w : World) {v : Value} (h : s.run P w = .ok v w) : (do pure (Next.value (← s)) : Sem Next).run P w = .ok (.value v) w := by
  simp [h]

theorem lds_run {b : Nat} {ls : List Leaf} : ∀ {o i : Nat} {Q : List Value → Prop} {acc : Array Value}, lds h b (o + i) ls Q →
    ∃ vs, Q vs ∧ vs.length = ls.length ∧ ∀ w : World, Ext h w.heap → (loadCellsFrom ⟨b, o, none⟩ i ls.length acc).run P w = .ok (acc ++ vs.toArray) w := by
  induction ls with
  | nil => intro o i Q acc hl; exact ⟨[], hl, rfl, fun w _ => by simp [loadCellsFrom]⟩
  | cons l ls ih =>
    intro o i Q acc hl
    obtain ⟨v, hv, hr⟩ := Leaf.ex_some hl
    obtain ⟨vs, hq, hn, hrun⟩ := ih (o := o) (i := i + 1) (acc := acc.push v) hr
    refine ⟨v :: vs, hq, by simp [hn], fun w hw => ?_⟩
    have hc := hw.cell hv
    simp only [List.length_cons, loadCellsFrom, Sem.run_bind, run_load, add_none, cell_w, hc, Result.andThen_ok]
    rw [hrun w hw]
    simp

theorem setAt_length : ∀ (cs : List Value) (n : Nat) (vs : List Value), (setAt cs n vs).length = cs.length
  | _, _, [] => by unfold setAt; rfl
  | [], _, _ :: _ => by unfold setAt; rfl
  | _ :: cs, 0, v :: vs => by unfold setAt; simp [setAt_length cs 0 vs]
  | c :: cs, n + 1, v :: vs => by unfold setAt; simp [setAt_length cs n (v :: vs)]
theorem setAt_get : ∀ (cs : List Value) (n : Nat) (vs : List Value) (i : Nat), n + vs.length ≤ cs.length →
    (setAt cs n vs)[i]? = if n ≤ i ∧ i < n + vs.length then vs[i - n]? else cs[i]?
  | cs, n, [], i, _ => by
    rw [if_neg (by simp)]; cases cs <;> cases n <;> rfl
  | [], n, v :: vs, i, h => by simp at h
  | c :: cs, 0, v :: vs, i, h => by
    unfold setAt
    cases i with
    | zero => simp
    | succ i =>
      simp only [List.getElem?_cons_succ, List.length_cons]
      rw [setAt_get cs 0 vs i (by simp at h ⊢; omega)]
      simp
  | c :: cs, n + 1, v :: vs, i, h => by
    unfold setAt
    cases i with
    | zero => simp
    | succ i =>
      simp only [List.getElem?_cons_succ]
      rw [setAt_get cs n (v :: vs) i (by simp at h ⊢; omega)]
      have e1 : (n + 1 ≤ i + 1 ∧ i + 1 < n + 1 + (v :: vs).length) ↔ (n ≤ i ∧ i < n + (v :: vs).length) := by constructor <;> intro h <;> omega
      by_cases hc : n ≤ i ∧ i < n + (v :: vs).length
      · rw [if_pos hc, if_pos (e1.2 hc)]; congr 1; omega
      · rw [if_neg hc, if_neg (fun x => hc (e1.1 x))]
theorem fold_set (off : Nat) : ∀ (vs : List Value) (j : Nat) (cs : Array Value), (vs.zipIdx j).foldl (fun cs (x : Value × Nat) => cs.setIfInBounds (off + x.2) x.1) cs =
    (setAt cs.toList (off + j) vs).toArray ∨ ¬ (off + j + vs.length ≤ cs.size) := by
  intro vs
  induction vs with
  | nil => intro j cs; left; simp; cases cs; rename_i l; simp [setAt]
  | cons v vs ih =>
    intro j cs
    by_cases hlt : off + j + (v :: vs).length ≤ cs.size
    · left
      simp only [List.zipIdx_cons, List.foldl_cons]
      rcases ih (j + 1) (cs.setIfInBounds (off + j) v) with e | e
      · rw [e]
        apply Array.ext'
        simp only [List.toList_toArray]
        apply List.ext_getElem?
        intro i
        rw [setAt_get _ _ _ _ (by simp at hlt ⊢; omega), setAt_get _ _ _ _ (by simpa using hlt)]
        simp only [Array.getElem?_toList, Array.getElem?_setIfInBounds, List.length_cons]
        by_cases h1 : off + (j + 1) ≤ i ∧ i < off + (j + 1) + vs.length
        · rw [if_pos h1, if_pos (by omega)]
          rw [show i - (off + j) = (i - (off + (j + 1))) + 1 by omega]; simp
        · rw [if_neg h1]
          by_cases h2 : off + j = i
          · subst h2; simp at hlt; rw [if_pos rfl, if_pos (by omega), if_pos (by omega)]; simp
          · rw [if_neg h2, if_neg (by omega)]
      · exfalso; apply e; simp at hlt ⊢; omega
    · exact .inr hlt
theorem cells_eq (v : Value) : v.cells = (valCells v).toArray := by
  cases v <;> rfl

theorem fill_run (place : Nat → Option (Nat × Nat)) (hs : Sim f a) : ∀ (ps : List (Nat × Operand)) (qs : List (Nat × Nat × Operand)) (cs : List Value) (Q : List Value → Prop),
    (∀ j : Nat, (ps[j]?).map (fun (p : Nat × Operand) => (place p.1, p.2)) = (qs[j]?).map (fun (q : Nat × Nat × Operand) => (some (q.1, q.2.1), q.2.2))) → fillS f cs qs Q →
    ∃ r, Q r ∧ Instr.fill place cs.toArray (ps.map fun (i, x) => (i, a.eval x)) = some r.toArray := by
  intro ps
  induction ps with
  | nil =>
    intro qs cs Q hall hf
    cases qs with
    | nil => exact ⟨cs, hf, rfl⟩
    | cons q qs => have := hall 0; simp at this
  | cons p ps ih =>
    intro qs cs Q hall hf
    cases qs with
    | nil => have := hall 0; simp at this
    | cons q qs =>
      obtain ⟨i, x⟩ := p
      obtain ⟨off, n, y⟩ := q
      have h0 := hall 0
      simp only [List.getElem?_cons_zero, Option.map_some, Option.some.injEq, Prod.mk.injEq] at h0
      obtain ⟨hp, rfl⟩ := h0
      unfold fillS at hf
      cases hx : f.ov x with
      | none => rw [hx] at hf; exact hf.elim
      | some v =>
        rw [hx] at hf
        obtain ⟨h1, h2, hf⟩ := hf
        obtain ⟨r, hr, e⟩ := ih qs (setAt cs off (valCells v)) Q (fun j => by have := hall (j + 1); simpa using this) hf
        refine ⟨r, hr, ?_⟩
        simp only [List.map_cons, Instr.fill, hp, hs.ev hx]
        rw [if_neg (by rw [cells_eq]; simp; omega)]
        rw [← e]
        congr 1
        rw [cells_eq]
        have := fold_set off (valCells v) 0 cs.toArray
        rcases this with this | this
        · simp only [Nat.add_zero] at this
          rw [← this, ← Array.foldl_toList, Array.toList_zipIdx]
        · exfalso; apply this; simp; omega

theorem places_sound (P : Program) (fs : Array Field) : ∀ (ps : List (Nat × Operand)) (qs : List (Nat × Nat × Operand)), placesOk P fs ps qs = true →
    ∀ (pl : Array (Nat × Nat)), (∀ (i : Nat) (g : Field), fs[i]? = some g → ∀ n, sizeD P g.type = some n → pl[i]? = some (g.offset, n)) →
    ∀ j : Nat, (ps[j]?).map (fun (p : Nat × Operand) => (pl[p.1]?, p.2)) = (qs[j]?).map (fun (q : Nat × Nat × Operand) => (some (q.1, q.2.1), q.2.2)) := by
  intro ps
  induction ps with
  | nil => intro qs h pl _ j; cases qs with | nil => rfl | cons q qs => cases h
  | cons p ps ih =>
    intro qs h pl hpl j
    cases qs with
    | nil => cases h
    | cons q qs =>
      obtain ⟨i, x⟩ := p
      obtain ⟨off, n, y⟩ := q
      simp only [placesOk, Bool.and_eq_true] at h
      obtain ⟨⟨h1, h2⟩, h3⟩ := h
      cases j with
      | zero =>
        simp only [List.getElem?_cons_zero, Option.map_some, Option.some.injEq, Prod.mk.injEq]
        refine ⟨?_, oeq_eq h1⟩
        cases hg : fs[i]? with
        | none => rw [hg] at h2; cases h2
        | some g =>
          rw [hg] at h2
          simp at h2
          rw [hpl i g hg n h2.2, h2.1]
      | succ j => simpa using ih qs h3 pl hpl j
theorem placesA_sound (size : Nat) : ∀ (ps : List (Nat × Operand)) (qs : List (Nat × Nat × Operand)), placesOkA size ps qs = true →
    ∀ j : Nat, (ps[j]?).map (fun (p : Nat × Operand) => (some (p.1 * size, size), p.2)) = (qs[j]?).map (fun (q : Nat × Nat × Operand) => (some (q.1, q.2.1), q.2.2)) := by
  intro ps
  induction ps with
  | nil => intro qs h j; cases qs with | nil => rfl | cons q qs => cases h
  | cons p ps ih =>
    intro qs h j
    cases qs with
    | nil => cases h
    | cons q qs =>
      obtain ⟨i, x⟩ := p
      obtain ⟨off, n, y⟩ := q
      simp only [placesOkA, Bool.and_eq_true, beq_iff_eq] at h
      obtain ⟨⟨⟨h1, h2⟩, h4⟩, h3⟩ := h
      cases j with
      | zero => subst h4; simp [h2, oeq_eq h1]
      | succ j => simpa using ih qs h3 j

theorem mapM_sizes (P : Program) (w : World) : ∀ (l : List Field) (acc : List (Nat × Nat)), allSized P l = true →
    ∃ r : List (Nat × Nat), ((l.mapM fun f => do pure (f.offset, ← sizeOf f.type) : Sem (List (Nat × Nat))).run P w = .ok r w) ∧
      ∀ (i : Nat) (g : Field), l[i]? = some g → ∀ n, sizeD P g.type = some n → r[i]? = some (g.offset, n) := by
  intro l
  induction l with
  | nil => intro _ _; exact ⟨[], by simp, by simp⟩
  | cons f l ih =>
    intro acc h
    simp only [allSized, Bool.and_eq_true, Option.isSome_iff_exists] at h
    obtain ⟨⟨n, hn⟩, h2⟩ := h
    obtain ⟨r, hr, hget⟩ := ih acc h2
    refine ⟨(f.offset, n) :: r, ?_, ?_⟩
    · simp only [List.mapM_cons, Sem.run_bind, run_size hn, Result.andThen_ok, Sem.run_pure]
      rw [hr]; simp
    · intro i g hg m hm
      cases i with
      | zero => simp at hg; subst hg; rw [hn] at hm; simp at hm; subst hm; rfl
      | succ i => simpa using hget i g (by simpa using hg) m hm

theorem nthV_get : ∀ (l : List Value) (n : Nat), nthV l n = l[n]?
  | [], _ => by cases ‹Nat› <;> rfl
  | v :: _, 0 => rfl
  | v :: l, n + 1 => by simpa [nthV] using nthV_get l n
theorem takeV_eq : ∀ (l : List Value) (m n : Nat), m + n ≤ l.length → takeV l m n = (l.drop m).take n
  | l, m, 0, _ => by cases l <;> simp [takeV]
  | [], _, _ + 1, h => by simp at h
  | v :: l, 0, n + 1, h => by
    unfold takeV
    rw [takeV_eq l 0 n (by simp at h ⊢; omega)]; simp
  | _ :: l, m + 1, n + 1, h => by
    unfold takeV
    rw [takeV_eq l m (n + 1) (by simp at h ⊢; omega)]; simp
end Go.Fw

/- Operations that only compute or read: the law. -/
set_option linter.unusedVariables false
set_option linter.unusedSimpArgs false
namespace Go.Fw
variable {P : Program} {o : Oper} {f : Fr} {h : H} {a : Act} {K : Slot → Prop}

theorem sl_lit (hs : Sim f a) {x : Operand} {b : Bool} (hx : f.sl x = .lit b) : a.eval x = .bool b := hs.ev (by unfold Fr.ov; rw [hx]; rfl)
theorem sl_v (hs : Sim f a) {x : Operand} {v : Value} (hx : f.sl x = .v v) : a.eval x = v := hs.ev (by unfold Fr.ov; rw [hx]; rfl)
theorem sl_prp (hs : Sim f a) {x : Operand} {p : Prop} {d : Decidable p} (hx : f.sl x = .prp p d) : a.eval x = .bool (@decide p d) := hs.ev (by unfold Fr.ov; rw [hx]; rfl)

theorem s_mov {x : Operand} (ho : o.op = .move x ∨ o.op = .assign x) (hs : Sim f a) (hv : (VOp.mov x).val f h K) : V P o h a K :=
  .mk (a.eval x) (f.sl x) (hs.sl x) hv fun w _ => by rcases ho with e | e <;> simp [execOp, e]
theorem s_pick {c x y : Operand} (ho : o.op = .pick c x y) (hs : Sim f a) (hv : (VOp.pick c x y).val f h K) : V P o h a K := by
  simp only [VOp.val] at hv
  split at hv
  · rename_i t hc
    cases t
    · exact .mk (a.eval y) (f.sl y) (hs.sl y) hv fun w _ => by simp [execOp, ho, sl_lit hs hc, asBool]
    · exact .mk (a.eval x) (f.sl x) (hs.sl x) hv fun w _ => by simp [execOp, ho, sl_lit hs hc, asBool]
  · rename_i p d hc
    by_cases hp : p
    · exact .mk (a.eval x) (f.sl x) (hs.sl x) (hv.1 hp) fun w _ => by simp [execOp, ho, sl_prp hs hc, asBool, hp]
    · exact .mk (a.eval y) (f.sl y) (hs.sl y) (hv.2 hp) fun w _ => by simp [execOp, ho, sl_prp hs hc, asBool, hp]
  · rename_i t hc
    cases t
    · exact .mk (a.eval y) (f.sl y) (hs.sl y) (hv.2 rfl) fun w _ => by simp [execOp, ho, sl_v hs hc, asBool]
    · exact .mk (a.eval x) (f.sl x) (hs.sl x) (hv.1 rfl) fun w _ => by simp [execOp, ho, sl_v hs hc, asBool]
  · exact hv.elim

def intSem (op : BinOp) (k : IntKind) (m n : Int) : Sem Value :=
  match op with
    | .add | .sub | .mul => Op.intArith op k m n
    | .quo | .rem => Op.intDiv op k m n
    | .and | .or | .xor | .andNot => Op.intBits op k m n
    | _ => Op.intCmp op m n
theorem bin_int {op : BinOp} {t u : TypeId} {x y : Operand} (ho : o.op = .binOp op t x y u) {k : IntKind} {m n : Int} (hx : a.eval x = .int k m) (hy : a.eval y = .int k n)
    (h1 : op ≠ .shl) (h2 : op ≠ .shr) (w : World) {v : Value}
    (hr : (intSem op k m n).run P w = .ok v w) : (execOp a.eval o).run P w = .ok (.value v) w := by
  have he : (eqGuard op t x y (a.eval x) (a.eval y)).run P w = .ok () w := by
    rw [hx, hy]; unfold eqGuard; split <;> simp
  have hb : (binOp op t (a.eval x) (a.eval y)).run P w = .ok v w := by
    rw [hx, hy]
    cases op <;> first | exact absurd rfl h1 | exact absurd rfl h2 | (simp only [binOp, ne_eq, not_true_eq_false, if_false]; exact hr)
  simp only [execOp, ho, Sem.run_bind, he, hb, Result.andThen_ok, Sem.run_pure]

theorem s_ar {op : BinOp} {t u : TypeId} {nw : Bool} {x y : Operand} (ho : o.op = .binOp op t x y u) (hop : isAr op = true) (hs : Sim f a) (hv : (VOp.ar op nw x y).val f h K) : V P o h a K := by
  simp only [VOp.val] at hv
  split at hv
  · rename_i k m j n hx hy
    split at hv
    · rename_i hk; obtain rfl := kq_eq hk
      obtain ⟨hr, hv⟩ := hv
      refine .mk _ _ (agrees_v _) hv fun w _ => bin_int ho (hs.ev hx) (hs.ev hy) (by rintro rfl; cases hop) (by rintro rfl; cases hop) w ?_
      cases op <;> first | (cases hop; done) | (simp only [VOp.arF] at hr; simp only [intSem, Op.intArith, VOp.arF, Sem.run_pure]; rw [wrap_in hr])
    · rename_i hk; obtain rfl := kq_eq hk
      refine .mk _ _ (agrees_v _) hv fun w _ => bin_int ho (hs.ev hx) (hs.ev hy) (by rintro rfl; cases hop) (by rintro rfl; cases hop) w ?_
      cases op <;> first | (cases hop; done) | rfl
    · exact hv.elim
  · exact hv.elim

theorem s_dv {op : BinOp} {t u : TypeId} {x y : Operand} (ho : o.op = .binOp op t x y u) (hop : op = .quo ∨ op = .rem) (hs : Sim f a) (hv : (VOp.dv op x y).val f h K) : V P o h a K := by
  simp only [VOp.val] at hv
  split at hv
  · rename_i k m j n hx hy
    split at hv
    · rename_i hk; obtain rfl := kq_eq hk
      obtain ⟨h0, hm, hn, hv⟩ := hv
      refine .mk _ _ (agrees_v _) hv fun w _ => bin_int ho (hs.ev hx) (hs.ev hy) (by rintro rfl; rcases hop with h | h <;> cases h) (by rintro rfl; rcases hop with h | h <;> cases h) w ?_
      rcases hop with rfl | rfl
      · simp only [intSem, Op.intDiv]
        rw [if_neg (by omega)]
        simp only [Sem.run_pure]
        rw [Int.tdiv_eq_ediv_of_nonneg h0]
        have h1 : m / n ≤ m := Int.ediv_le_self _ h0
        have h2 : 0 ≤ m / n := Int.ediv_nonneg h0 (by omega)
        rw [wrap_in ⟨by cases k <;> simp only [lo] <;> omega, by omega⟩]
      · simp only [intSem, Op.intDiv]
        rw [if_neg (by omega)]
        simp only [Sem.run_pure]
        rw [Int.tmod_eq_emod_of_nonneg h0]
    · exact hv.elim
  · exact hv.elim

theorem s_dt {op : BinOp} {t u : TypeId} {x y : Operand} (ho : o.op = .binOp op t x y u) (hop : op = .quo ∨ op = .rem) (hs : Sim f a) (hv : (VOp.dt op x y).val f h K) : V P o h a K := by
  simp only [VOp.val] at hv
  split at hv
  · rename_i k m j n hx hy
    split at hv
    · rename_i hk; obtain rfl := kq_eq hk
      obtain ⟨hn, hr, hv⟩ := hv
      refine .mk _ _ (agrees_v _) hv fun w _ => bin_int ho (hs.ev hx) (hs.ev hy) (by rintro rfl; rcases hop with h | h <;> cases h) (by rintro rfl; rcases hop with h | h <;> cases h) w ?_
      rcases hop with rfl | rfl
      · simp only [intSem, Op.intDiv]
        rw [if_neg (by omega)]
        simp only [Sem.run_pure]
        simp only at hr
        rw [wrap_in hr]
      · simp only [intSem, Op.intDiv]
        rw [if_neg (by omega)]
        simp only [Sem.run_pure]
    · exact hv.elim
  · exact hv.elim

theorem s_bt {op : BinOp} {t u : TypeId} {x y : Operand} (ho : o.op = .binOp op t x y u) (hop : isBt op = true) (hs : Sim f a) (hv : (VOp.bt op x y).val f h K) : V P o h a K := by
  simp only [VOp.val] at hv
  split at hv
  · rename_i k m j n hx hy
    split at hv
    · rename_i hk; obtain rfl := kq_eq hk
      refine .mk _ _ (agrees_v _) hv fun w _ => bin_int ho (hs.ev hx) (hs.ev hy) (by rintro rfl; cases hop) (by rintro rfl; cases hop) w ?_
      cases op <;> first | (cases hop; done) | rfl
    · exact hv.elim
  · exact hv.elim

theorem s_sh {op : BinOp} {t u : TypeId} {x y : Operand} (ho : o.op = .binOp op t x y u) (hop : op = .shl ∨ op = .shr) (hs : Sim f a) (hv : (VOp.sh op x y).val f h K) : V P o h a K := by
  simp only [VOp.val] at hv
  split at hv
  · rename_i k m j n hx hy
    obtain ⟨h0, hv⟩ := hv
    refine .mk _ _ (agrees_v _) hv fun w _ => ?_
    have he : (eqGuard op t x y (a.eval x) (a.eval y)).run P w = .ok () w := by
      rw [hs.ev hx, hs.ev hy]; unfold eqGuard; split <;> simp
    have hb : (binOp op t (a.eval x) (a.eval y)).run P w = .ok (.int k (shF op k m n)) w := by
      rw [hs.ev hx, hs.ev hy]
      rcases hop with rfl | rfl <;> simp only [binOp, Op.shift] <;> rw [if_neg (by omega)] <;> rfl
    simp only [execOp, ho, Sem.run_bind, he, hb, Result.andThen_ok, Sem.run_pure]
  · exact hv.elim

theorem s_cmp {op : BinOp} {t u : TypeId} {x y : Operand} (ho : o.op = .binOp op t x y u) (hop : isCmp op = true) (hs : Sim f a) (hv : (VOp.cmp op x y).val f h K) : V P o h a K := by
  simp only [VOp.val] at hv
  split at hv
  · rename_i k m j n hx hy
    split at hv
    · rename_i hk; obtain rfl := kq_eq hk
      obtain ⟨b, hb, hrun⟩ := cmpS_agrees (P := P) op m n hop
      refine .mk _ _ hb hv fun w _ => bin_int ho (hs.ev hx) (hs.ev hy) (by rintro rfl; cases hop) (by rintro rfl; cases hop) w ?_
      have := hrun w
      cases op <;> first | (cases hop; done) | exact this
    · exact hv.elim
  · exact hv.elim

theorem bin_eq {op : BinOp} {t u : TypeId} {x y : Operand} (ho : o.op = .binOp op t x y u) (hop : op = .eql ∨ op = .neq) (w : World) {b : Bool}
    (he : (eqGuard op t x y (a.eval x) (a.eval y)).run P w = .ok () w)
    (hk : ∀ k m j n, ¬ (a.eval x = .int k m ∧ a.eval y = .int j n)) (hs : ∀ m n, ¬ (a.eval x = .string m ∧ a.eval y = .string n))
    (hf : ∀ k m j n, ¬ (a.eval x = .float k m ∧ a.eval y = .float j n)) (hc : ∀ k m1 m2 j n1 n2, ¬ (a.eval x = .complex k m1 m2 ∧ a.eval y = .complex j n1 n2))
    (hr : (Op.equal t (a.eval x) (a.eval y)).run P w = .ok b w) : (execOp a.eval o).run P w = .ok (.value (.bool (if op = .eql then b else !b))) w := by
  have hb : (binOp op t (a.eval x) (a.eval y)).run P w = .ok (.bool (if op = .eql then b else !b)) w := by
    generalize a.eval x = vx at *
    generalize a.eval y = vy at *
    rcases hop with rfl | rfl
    · unfold binOp
      split <;> first | (exfalso; exact hk _ _ _ _ ⟨rfl, rfl⟩) | (exfalso; exact hs _ _ ⟨rfl, rfl⟩) | (exfalso; exact hf _ _ _ _ ⟨rfl, rfl⟩) | (exfalso; exact hc _ _ _ _ _ _ ⟨rfl, rfl⟩) | (simp [hr]; done) | (simp_all; done)
    · unfold binOp
      split <;> first | (exfalso; exact hk _ _ _ _ ⟨rfl, rfl⟩) | (exfalso; exact hs _ _ ⟨rfl, rfl⟩) | (exfalso; exact hf _ _ _ _ ⟨rfl, rfl⟩) | (exfalso; exact hc _ _ _ _ _ _ ⟨rfl, rfl⟩) | (simp [hr]; done) | (simp_all; done)
  simp only [execOp, ho, Sem.run_bind, he, hb, Result.andThen_ok, Sem.run_pure]

theorem s_cmb {op : BinOp} {t u : TypeId} {x y : Operand} (ho : o.op = .binOp op t x y u) (hop : op = .eql ∨ op = .neq) (hd : P.underlying t = some .bool) (hs : Sim f a) (hv : (VOp.cmb op x y).val f h K) : V P o h a K := by
  simp only [VOp.val] at hv
  split at hv
  · rename_i m n hx hy
    have hx := hs.ev hx; have hy := hs.ev hy
    refine .mk (.bool (if op = .eql then m == n else !(m == n))) _ ?_ hv fun w _ => ?_
    · rcases hop with rfl | rfl
      · exact agrees_prp _ _ _ (by rw [Bool.eq_iff_iff]; simp)
      · exact agrees_prp _ _ _ (by rw [Bool.eq_iff_iff]; simp)
    · refine bin_eq ho hop w ?_ (by simp [hx]) (by simp [hx]) (by simp [hx]) (by simp [hx]) ?_
      · rw [hx, hy]; unfold eqGuard; split <;> simp
      · rw [hx, hy, show Op.equal t (.bool m) (.bool n) = Op.equalIn (9999 + 1) t (.bool m) (.bool n) from rfl, Op.equalIn]; simp [run_und hd]
  · exact hv.elim

theorem s_cms {op : BinOp} {t u : TypeId} {x y : Operand} (ho : o.op = .binOp op t x y u) (hop : op = .eql ∨ op = .neq) (hs : Sim f a) (hv : (VOp.cms op x y).val f h K) : V P o h a K := by
  simp only [VOp.val] at hv
  split at hv
  · rename_i m n hx hy
    have hx := hs.ev hx; have hy := hs.ev hy
    refine .mk (.bool (if op = .eql then m.toList == n.toList else !(m.toList == n.toList))) _ ?_ hv fun w _ => ?_
    · rcases hop with rfl | rfl
      · exact agrees_prp _ _ _ (by rw [Bool.eq_iff_iff]; simp)
      · exact agrees_prp _ _ _ (by rw [Bool.eq_iff_iff]; simp)
    · have he : (eqGuard op t x y (a.eval x) (a.eval y)).run P w = .ok () w := by
        rw [hx, hy]; unfold eqGuard; split <;> simp
      have hb : (binOp op t (a.eval x) (a.eval y)).run P w = .ok (.bool (if op = .eql then m.toList == n.toList else !(m.toList == n.toList))) w := by
        rw [hx, hy]
        rcases hop with rfl | rfl <;> simp [binOp, Op.stringOp]
      simp only [execOp, ho, Sem.run_bind, he, hb, Result.andThen_ok, Sem.run_pure]
  · exact hv.elim

theorem s_cat {t u : TypeId} {x y : Operand} (ho : o.op = .binOp .add t x y u) (hs : Sim f a) (hv : (VOp.cat x y).val f h K) : V P o h a K := by
  simp only [VOp.val] at hv
  split at hv
  · rename_i m n hx hy
    have hx := hs.ev hx; have hy := hs.ev hy
    obtain ⟨hl, hv⟩ := hv
    refine .mk _ _ (agrees_v _) hv fun w _ => ?_
    have he : (eqGuard .add t x y (a.eval x) (a.eval y)).run P w = .ok () w := by
      rw [hx, hy]; unfold eqGuard; simp
    have hb : (binOp .add t (a.eval x) (a.eval y)).run P w = .ok (.string (m ++ n)) w := by
      rw [hx, hy]
      simp only [binOp, Op.stringOp]
      rw [if_neg (by simp [IntKind.max, IntKind.signed, IntKind.bits]; omega)]; rfl
    simp only [execOp, ho, Sem.run_bind, he, hb, Result.andThen_ok, Sem.run_pure]
  · exact hv.elim

theorem notS_agrees {s : Slot} {b : Bool} (hs : s.agrees (.bool b)) : (notS s).agrees (.bool (!b)) := by
  cases s with
  | non => exact agrees_non _
  | lit c => have := hs _ rfl; simp at this; subst this; exact agrees_lit _
  | prp p d =>
    have := hs _ rfl; simp at this; subst this
    refine agrees_prp _ _ _ ?_
    rw [decide_not]
  | v x =>
    have := hs _ rfl
    subst this
    exact agrees_v _
theorem equal_in (t : TypeId) (x y : Value) : Op.equal t x y = Op.equalIn (9999 + 1) t x y := rfl
def nilOf : NK → Value
  | .ptr => .pointer none | .slice => .slice none 0 0 | .map => .map none | .iface => .nilIface | .func => .nilFunc
theorem isNilC_of {k : NK} {c : Value} (h : isNilC k (.const c) = true) : c = nilOf k := by
  unfold isNilC at h
  split at h <;> simp_all [nilOf]
theorem nil_run {t : TypeId} {k : NK} {v c : Value} {S : Slot → Prop} (hd : nkD k (desc P t) = true) (hc : isNilC k (.const c) = true) (hn : nilS k v S) :
    ∃ (b : Bool) (s : Slot), s.agrees (.bool b) ∧ S s ∧ (∀ w, (Op.equal t v c).run P w = .ok b w) ∧ (∀ w, (Op.equal t c v).run P w = .ok b w) := by
  unfold desc at hd
  cases hD : P.underlying t with
  | none => rw [hD] at hd; cases k <;> cases hd
  | some d =>
    rw [hD] at hd
    rw [equal_in, equal_in]
    unfold nilS at hn
    split at hn
    · rename_i p
      cases d <;> simp [nkD] at hd
      obtain rfl := isNilC_of hc; simp only [nilOf]
      refine ⟨p.isNone, _, agrees_prp _ _ _ (by cases p <;> simp), hn, ?_, ?_⟩
      · intro w; rw [Op.equalIn]; cases p <;> simp [run_und hD]
      · intro w; rw [Op.equalIn]; simp [run_und hD]
    · rename_i p n m
      cases d <;> simp [nkD] at hd
      obtain rfl := isNilC_of hc; simp only [nilOf]
      refine ⟨p.isNone, _, agrees_prp _ _ _ (by cases p <;> simp), hn, ?_, ?_⟩
      · intro w; rw [Op.equalIn]; cases p <;> simp [run_und hD]
      · intro w; rw [Op.equalIn]; simp [run_und hD]
    · rename_i p
      cases d <;> simp [nkD] at hd
      obtain rfl := isNilC_of hc; simp only [nilOf]
      refine ⟨p.isNone, _, agrees_prp _ _ _ (by cases p <;> simp), hn, ?_, ?_⟩
      · intro w; rw [Op.equalIn]; cases p <;> simp [run_und hD]
      · intro w; rw [Op.equalIn]; simp [run_und hD]
    · cases d <;> simp [nkD] at hd
      obtain rfl := isNilC_of hc; simp only [nilOf]
      exact ⟨true, _, agrees_lit _, hn, by intro w; rw [Op.equalIn]; simp [run_und hD], by intro w; rw [Op.equalIn]; simp [run_und hD]⟩
    · cases d <;> simp [nkD] at hd
      obtain rfl := isNilC_of hc; simp only [nilOf]
      exact ⟨false, _, agrees_lit _, hn, by intro w; rw [Op.equalIn]; simp [run_und hD], by intro w; rw [Op.equalIn]; simp [run_und hD]⟩
    · cases d <;> simp [nkD] at hd
      obtain rfl := isNilC_of hc; simp only [nilOf]
      exact ⟨true, _, agrees_lit _, hn, by intro w; rw [Op.equalIn]; simp [run_und hD], by intro w; rw [Op.equalIn]; simp [run_und hD]⟩
    · cases d <;> simp [nkD] at hd
      obtain rfl := isNilC_of hc; simp only [nilOf]
      exact ⟨false, _, agrees_lit _, hn, by intro w; rw [Op.equalIn]; simp [run_und hD], by intro w; rw [Op.equalIn]; simp [run_und hD]⟩
    · exact hn.elim
end Go.Fw

/- Operations that only compute or read: the law, second part. -/
set_option linter.unusedVariables false
set_option linter.unusedSimpArgs false
namespace Go.Fw
variable {P : Program} {o : Oper} {f : Fr} {h : H} {a : Act} {K : Slot → Prop}

theorem isEq_or {op : BinOp} (h : isEq op = true) : op = .eql ∨ op = .neq := by cases op <;> simp [isEq] at h <;> simp

theorem bin_eqr {op : BinOp} {t u : TypeId} {x y : Operand} (ho : o.op = .binOp op t x y u) (hop : op = .eql ∨ op = .neq) (w : World) {b : Bool}
    (he : (eqGuard op t x y (a.eval x) (a.eval y)).run P w = .ok () w)
    (hk : binOp .eql t (a.eval x) (a.eval y) = (do pure (.bool (← Op.equal t (a.eval x) (a.eval y)))) ∧ binOp .neq t (a.eval x) (a.eval y) = (do pure (.bool (!(← Op.equal t (a.eval x) (a.eval y))))))
    (hr : (Op.equal t (a.eval x) (a.eval y)).run P w = .ok b w) {s : Slot} (hs : s.agrees (.bool b)) :
    ∃ v, (match op with | .eql => s | _ => notS s : Slot).agrees v ∧ (execOp a.eval o).run P w = .ok (.value v) w := by
  rcases hop with rfl | rfl
  · refine ⟨.bool b, hs, ?_⟩
    simp only [execOp, ho, Sem.run_bind, he, hk.1, hr, Result.andThen_ok, Sem.run_pure]
  · refine ⟨.bool (!b), notS_agrees hs, ?_⟩
    simp only [execOp, ho, Sem.run_bind, he, hk.2, hr, Result.andThen_ok, Sem.run_pure]

theorem s_isn {op : BinOp} {t u : TypeId} {x y z : Operand} {left : Bool} {k : NK} (ho : o.op = .binOp op t x y u) (hop : isEq op = true) (hd : nkD k (desc P t) = true)
    (hc : (bif left then isNilC k x && oeq y z else isNilC k y && oeq x z) = true) (hs : Sim f a) (hv : (VOp.isn op left k z).val f h K) : V P o h a K := by
  simp only [VOp.val] at hv
  split at hv
  case h_2 => exact hv.elim
  rename_i v hz
  have hz := hs.ev hz
  cases left
  · simp only [cond_false, Bool.and_eq_true] at hc
    have hy : ∃ c, y = .const c := by unfold isNilC at hc; revert hc; split <;> simp
    obtain ⟨c, rfl⟩ := hy
    have h1 := oeq_eq hc.2; subst h1
    obtain ⟨b, s, h1, h2, h3, h4⟩ := nil_run (c := c) hd hc.1 hv
    obtain rfl := isNilC_of hc.1
    have hy : a.eval (.const (nilOf k)) = nilOf k := rfl
    have hg : ∀ w, (eqGuard op t x (.const (nilOf k)) (a.eval x) (a.eval (.const (nilOf k)))).run P w = .ok () w := fun w => by
      rw [hz, hy]; rcases isEq_or hop with rfl | rfl <;> cases k <;> cases v <;> first | rfl | (cases x <;> rfl) | (cases y <;> rfl)
    have hbin : binOp .eql t (a.eval x) (a.eval (.const (nilOf k))) = (do pure (.bool (← Op.equal t (a.eval x) (a.eval (.const (nilOf k)))))) ∧ binOp .neq t (a.eval x) (a.eval (.const (nilOf k))) = (do pure (.bool (!(← Op.equal t (a.eval x) (a.eval (.const (nilOf k))))))) := by
      rw [hz, hy]; cases k <;> cases v <;> exact ⟨rfl, rfl⟩
    rcases isEq_or hop with rfl | rfl
    · exact .mk (.bool b) _ h1 h2 fun w _ => by simp only [execOp, ho, Sem.run_bind, hg w, hbin.1, Result.andThen_ok, Sem.run_pure]; rw [hz, hy, h3 w]; rfl
    · exact .mk (.bool (!b)) _ (notS_agrees h1) h2 fun w _ => by simp only [execOp, ho, Sem.run_bind, hg w, hbin.2, Result.andThen_ok, Sem.run_pure]; rw [hz, hy, h3 w]; rfl
  · simp only [cond_true, Bool.and_eq_true] at hc
    have hy : ∃ c, x = .const c := by unfold isNilC at hc; revert hc; split <;> simp
    obtain ⟨c, rfl⟩ := hy
    have h1 := oeq_eq hc.2; subst h1
    obtain ⟨b, s, h1, h2, h3, h4⟩ := nil_run (c := c) hd hc.1 hv
    obtain rfl := isNilC_of hc.1
    have hy : a.eval (.const (nilOf k)) = nilOf k := rfl
    have hg : ∀ w, (eqGuard op t (.const (nilOf k)) y (a.eval (.const (nilOf k))) (a.eval y)).run P w = .ok () w := fun w => by
      rw [hz, hy]; rcases isEq_or hop with rfl | rfl <;> cases k <;> cases v <;> first | rfl | (cases x <;> rfl) | (cases y <;> rfl)
    have hbin : binOp .eql t (a.eval (.const (nilOf k))) (a.eval y) = (do pure (.bool (← Op.equal t (a.eval (.const (nilOf k))) (a.eval y)))) ∧ binOp .neq t (a.eval (.const (nilOf k))) (a.eval y) = (do pure (.bool (!(← Op.equal t (a.eval (.const (nilOf k))) (a.eval y))))) := by
      rw [hz, hy]; cases k <;> cases v <;> exact ⟨rfl, rfl⟩
    rcases isEq_or hop with rfl | rfl
    · exact .mk (.bool b) _ h1 h2 fun w _ => by simp only [execOp, ho, Sem.run_bind, hg w, hbin.1, Result.andThen_ok, Sem.run_pure]; rw [hz, hy, h4 w]; rfl
    · exact .mk (.bool (!b)) _ (notS_agrees h1) h2 fun w _ => by simp only [execOp, ho, Sem.run_bind, hg w, hbin.2, Result.andThen_ok, Sem.run_pure]; rw [hz, hy, h4 w]; rfl

/-! structs compared -/
theorem part_at (w : World) {t : TypeId} {l : Leaf} (hl : leafD l (P.underlying t) = true) (px xs : List Value) (x : Value) :
    (part t ⟨px ++ x :: xs⟩ px.length).run P w = .ok x w := by
  cases hD : P.underlying t with
  | none => rw [hD] at hl; cases l <;> cases hl
  | some d =>
    rw [hD] at hl
    have : (isAgg t).run P w = .ok false w := by
      cases l <;> cases d <;> simp [leafD] at hl <;> simp [isAgg, run_und hD]
    simp [part, this]
theorem eq1_run (w : World) {t : TypeId} {l : Leaf} (hl : leafD l (P.underlying t) = true) (d : Nat) :
    (∀ k m n, l = .int k → ∀ j, (Op.equalIn (d + 1) t (.int j m) (.int j n)).run P w = .ok (m == n) w) ∧
    (∀ m n, l = .bool → (Op.equalIn (d + 1) t (.bool m) (.bool n)).run P w = .ok (m == n) w) ∧
    (∀ m n, l = .str → (Op.equalIn (d + 1) t (.string m) (.string n)).run P w = .ok (m.toList == n.toList) w) := by
  cases hD : P.underlying t with
  | none => rw [hD] at hl; cases l <;> cases hl
  | some e =>
    rw [hD] at hl
    refine ⟨?_, ?_, ?_⟩
    · rintro k m n rfl j; cases e <;> simp [leafD] at hl; exact run_equalIn_int w d t j _ m n hD
    · rintro m n rfl; cases e <;> simp [leafD] at hl; exact run_equalIn_bool' w d t m n hD
    · rintro m n rfl; cases e <;> simp [leafD] at hl; exact run_equalIn_string w d t m n hD
theorem eqf1 {d : Nat} {xs ys : Array Value} {f : Field} {fs : List Field} {x y : Value} {r s : Bool} {w : World} (hn : (f.name != "_") = true) (ha : (part f.type xs f.offset).run P w = .ok x w)
    (hb : (part f.type ys f.offset).run P w = .ok y w) (he : (Op.equalIn d f.type x y).run P w = .ok r w) (hr : (Op.eqFields d xs ys fs).run P w = .ok s w) : (Op.eqFields d xs ys (f :: fs)).run P w = .ok (r && s) w := by
  have hn' : f.name ≠ "_" := by simpa using hn
  rw [Op.eqFields]
  simp only [if_pos hn', Sem.run_bind, ha, hb, he, Result.andThen_ok]
  cases r
  · simp
  · simpa using hr
theorem agrees_and {p : Prop} {d : Decidable p} {b c : Bool} {s : Slot} {K : Slot → Prop} (h1 : b = @decide p d) (h2 : s.agrees (.bool c)) (h3 : andS p d K s) :
    ∃ s', s'.agrees (.bool (b && c)) ∧ K s' := by
  cases s with
  | non => exact h3.elim
  | v x => exact h3.elim
  | lit t =>
    have := h2 _ rfl; simp at this; subst this
    cases t
    · exact h3.elim
    · exact ⟨_, agrees_prp p d _ (by rw [h1]; simp), h3⟩
  | prp q e =>
    have := h2 _ rfl; simp at this
    exact ⟨_, agrees_prp _ _ _ (by rw [h1, ← this, Bool.decide_and]), h3⟩
theorem fields_eq (d : Nat) : ∀ (ls : List Leaf) (fs : List Field) (off : Nat) (xs ys px py : List Value) (S : Slot → Prop), eqFields P fs ls off = true → px.length = off → py.length = off →
    eqS ls xs ys S → ∃ (b : Bool) (s : Slot), s.agrees (.bool b) ∧ S s ∧ ∀ w, (Op.eqFields (d + 1) ⟨px ++ xs⟩ ⟨py ++ ys⟩ fs).run P w = .ok b w := by
  intro ls
  induction ls with
  | nil =>
    intro fs off xs ys px py S hf _ _ h
    cases fs with
    | cons => cases hf
    | nil =>
      cases xs <;> cases ys <;> simp only [eqS] at h
      exact ⟨true, _, agrees_lit _, h, fun w => by simp [Op.eqFields]⟩
  | cons l ls ih =>
    intro fs off xs ys px py S hf hx hy hs
    cases fs with
    | nil => cases hf
    | cons g gs =>
      simp only [eqFields, Bool.and_eq_true, beq_iff_eq] at hf
      obtain ⟨⟨⟨hn, ho⟩, hl⟩, hg⟩ := hf
      have go : ∀ (x y : Value) (xs' ys' : List Value) (p : Prop) (dp : Decidable p) (b : Bool), xs = x :: xs' → ys = y :: ys' → b = @decide p dp → (∀ w, (Op.equalIn (d + 1) g.type x y).run P w = .ok b w) →
          eqS ls xs' ys' (andS p dp S) → ∃ (b : Bool) (s : Slot), s.agrees (.bool b) ∧ S s ∧ ∀ w, (Op.eqFields (d + 1) ⟨px ++ xs⟩ ⟨py ++ ys⟩ (g :: gs)).run P w = .ok b w := by
        rintro x y xs' ys' p dp b rfl rfl hb he h
        obtain ⟨c, s, h1, h2, h3⟩ := ih gs (off + 1) xs' ys' (px ++ [x]) (py ++ [y]) _ hg (by simp [hx]) (by simp [hy]) h
        obtain ⟨s', h4, h5⟩ := agrees_and hb h1 h2
        refine ⟨_, s', h4, h5, fun w => ?_⟩
        refine eqf1 hn ?_ ?_ (he w) ?_
        · rw [ho, ← hx]; exact part_at w hl px xs' x
        · rw [ho, ← hy]; exact part_at w hl py ys' y
        · have := h3 w; simpa using this
      cases xs with
      | nil => cases l <;> exact hs.elim
      | cons x xs =>
        cases ys with
        | nil => cases l <;> cases x <;> exact hs.elim
        | cons y ys =>
          cases l <;> cases x <;> first | exact hs.elim | (cases y <;> first | exact hs.elim | skip)
          · rename_i k1 k m j n
            simp only [eqS] at hs
            split at hs
            · rename_i hk; obtain rfl := kq_eq hk
              exact go _ _ _ _ _ _ (m == n) rfl rfl (by rw [Bool.eq_iff_iff]; simp) (fun w => (eq1_run w hl d).1 _ _ _ rfl _) hs
            · exact hs.elim
          · rename_i m n
            exact go _ _ _ _ _ _ (m == n) rfl rfl (by rw [Bool.eq_iff_iff]; simp) (fun w => (eq1_run w hl d).2.1 _ _ rfl) hs
          · rename_i m n
            exact go _ _ _ _ _ _ (m.toList == n.toList) rfl rfl (by rw [Bool.eq_iff_iff]; simp) (fun w => (eq1_run w hl d).2.2 _ _ rfl) hs

theorem s_eqa {op : BinOp} {t u : TypeId} {x y : Operand} {ls : List Leaf} {fs : Array Field} (ho : o.op = .binOp op t x y u) (hop : isEq op = true) (hd : P.underlying t = some (.struct fs))
    (hf : eqFields P fs.toList ls 0 = true) (hst : P.stoodInHeld t = false) (hg : P.eqGuardType P.depth t = false) (hs : Sim f a) (hv : (VOp.eqa op ls x y).val f h K) : V P o h a K := by
  simp only [VOp.val] at hv
  split at hv
  · rename_i m n hx hy
    have hx := hs.ev hx; have hy := hs.ev hy
    obtain ⟨b, s, h1, h2, h3⟩ := fields_eq 9998 ls fs.toList 0 m n [] [] _ hf rfl rfl hv
    have hfs : P.fieldsOf t = fs := by simp [Program.fieldsOf, hd]
    have hrun : ∀ w, (Op.equalIn 10000 t (.agg ⟨m⟩) (.agg ⟨n⟩)).run P w = .ok b w := fun w => by
      rw [show (10000 : Nat) = 9999 + 1 from rfl, run_equalIn_struct (P := P) w 9999 t _ _ (by rw [hfs]; exact hd) hst, hfs]
      exact h3 w
    rcases isEq_or hop with rfl | rfl
    · exact .mk (.bool b) _ h1 h2 fun w _ => by
        simp only [execOp, ho, Sem.run_bind, hx, hy, run_eqGuard_agg w _ t x y _ _ hg, run_eql_struct w t, hrun w, Result.andThen_ok, Sem.run_pure]
    · exact .mk (.bool (!b)) _ (notS_agrees h1) h2 fun w _ => by
        simp only [execOp, ho, Sem.run_bind, hx, hy, run_eqGuard_agg w _ t x y _ _ hg, run_neq_struct w t, hrun w, Result.andThen_ok, Sem.run_pure]
  · exact hv.elim

theorem s_ng {t : TypeId} {x : Operand} (ho : o.op = .unOp .neg t x) (hs : Sim f a) (hv : (VOp.ng x).val f h K) : V P o h a K := by
  simp only [VOp.val] at hv
  split at hv
  · rename_i k n hx
    exact .mk _ _ (agrees_v _) hv fun w _ => by
      simp only [execOp, ho, hs.ev hx, Op.unary, Op.intArith, Sem.run_bind, Sem.run_pure, Result.andThen_ok]
      rw [Int.zero_sub]
  · exact hv.elim
theorem s_no {t : TypeId} {x : Operand} (ho : o.op = .unOp .not t x) (hs : Sim f a) (hv : (VOp.no x).val f h K) : V P o h a K := by
  simp only [VOp.val] at hv
  split at hv
  · rename_i b hx; exact .mk _ _ (agrees_lit _) hv fun w _ => by simp [execOp, ho, sl_lit hs hx, Op.unary]
  · rename_i p d hx; exact .mk _ _ (agrees_prp _ _ _ (decide_not).symm) hv fun w _ => by simp [execOp, ho, sl_prp hs hx, Op.unary]
  · rename_i b hx; exact .mk _ _ (agrees_v _) hv fun w _ => by simp [execOp, ho, sl_v hs hx, Op.unary]
  · exact hv.elim

theorem s_len {c : Call} {x : Operand} {t e : TypeId} (ho : o.op = .call c) (hc : c.callee = .builtin .len) (ha : c.args = #[x]) (ht : c.argTypes = #[t])
    (hd : P.underlying t = some (.slice e)) (hs : Sim f a) (hv : (VOp.len x).val f h K) : V P o h a K := by
  simp only [VOp.val] at hv
  split at hv
  · rename_i p n c' hx
    exact .mk _ _ (agrees_v _) hv fun w _ => by
      simp [execOp, ho, resolve, hc, ha, ht, invoke, builtin, Builtin.len_, run_und hd, hs.ev hx, goInt]
  · exact hv.elim
theorem s_lns {c : Call} {x : Operand} {t : TypeId} (ho : o.op = .call c) (hc : c.callee = .builtin .len) (ha : c.args = #[x]) (ht : c.argTypes = #[t])
    (hd : P.underlying t = some .string) (hs : Sim f a) (hv : (VOp.lns x).val f h K) : V P o h a K := by
  simp only [VOp.val] at hv
  split at hv
  · rename_i s hx
    exact .mk _ _ (agrees_v _) hv fun w _ => by
      simp [execOp, ho, resolve, hc, ha, ht, invoke, builtin, Builtin.len_, run_und hd, hs.ev hx, goInt]
  · exact hv.elim
theorem s_cap {c : Call} {x : Operand} {t e : TypeId} (ho : o.op = .call c) (hc : c.callee = .builtin .cap) (ha : c.args = #[x]) (ht : c.argTypes = #[t])
    (hd : P.underlying t = some (.slice e)) (hs : Sim f a) (hv : (VOp.cap x).val f h K) : V P o h a K := by
  simp only [VOp.val] at hv
  split at hv
  · rename_i p n c' hx
    exact .mk _ _ (agrees_v _) hv fun w _ => by
      simp [execOp, ho, resolve, hc, ha, ht, invoke, builtin, Builtin.cap_, run_und hd, hs.ev hx, goInt]
  · exact hv.elim
theorem s_mnx {c : Call} {x y : Operand} {mx : Bool} (ho : o.op = .call c) (hc : c.callee = .builtin (if mx then .max else .min)) (ha : c.args = #[x, y])
    (hs : Sim f a) (hv : (VOp.mnx mx x y).val f h K) : V P o h a K := by
  simp only [VOp.val] at hv
  split at hv
  · rename_i k m j n hx hy
    refine .mk _ _ (agrees_v _) hv fun w _ => ?_
    cases mx
    · simp [execOp, ho, resolve, hc, ha, invoke, builtin, Builtin.min_, Builtin.min2, hs.ev hx, hs.ev hy]
    · simp [execOp, ho, resolve, hc, ha, invoke, builtin, Builtin.max_, Builtin.max2, hs.ev hx, hs.ev hy]
  · exact hv.elim
theorem s_ld {t : TypeId} {l : Leaf} {x : Operand} (ho : o.op = .load t x) (hd : scalarD (desc P t) = true) (hs : Sim f a) (hv : (VOp.ld l x).val f h K) : V P o h a K := by
  simp only [VOp.val] at hv
  split at hv
  · rename_i p hx
    obtain ⟨b, off, rfl, hv⟩ := onP_ex hv
    obtain ⟨v, hc, hk⟩ := Leaf.ex_some hv
    exact .mk v _ (agrees_v v) hk fun w hw => by
      have := hw.cell hc
      simp [execOp, ho, hs.ev hx, Instr.loadAt, Instr.sureAddr, loadVar, run_agg0 hd, cell_w, this]
  · exact hv.elim
theorem ovs_ex {f : Fr} : ∀ {xs : List Operand} {K : List Value → Prop}, ovs f xs K → ∃ vs, K vs
  | [], K, h => ⟨[], h⟩
  | x :: xs, K, h => by
    simp only [ovs] at h
    split at h
    · obtain ⟨vs, h⟩ := ovs_ex h; exact ⟨_, h⟩
    · exact h.elim
theorem s_ldf {t : TypeId} {g : FuncId} {caps : List Operand} {x : Operand} (ho : o.op = .load t x) (hd : scalarD (desc P t) = true) (hs : Sim f a) (hv : (VOp.ldf g caps x).val f h K) : V P o h a K := by
  simp only [VOp.val] at hv
  obtain ⟨cs, hv⟩ := ovs_ex hv
  split at hv
  · rename_i p hx
    obtain ⟨b, off, rfl, hv⟩ := onP_ex hv
    obtain ⟨hc, hk⟩ := hv
    exact .mk _ _ (agrees_v _) hk fun w hw => by
      have := hw.cell hc
      simp [execOp, ho, hs.ev hx, Instr.loadAt, Instr.sureAddr, loadVar, run_agg0 hd, cell_w, this]
  · exact hv.elim
theorem s_lda {t : TypeId} {ls : List Leaf} {x : Operand} (ho : o.op = .load t x) (hd : aggD (desc P t) = true) (hz : sizeD P t = some ls.length) (hs : Sim f a) (hv : (VOp.lda ls x).val f h K) : V P o h a K := by
  simp only [VOp.val] at hv
  split at hv
  · rename_i p hx
    obtain ⟨b, off, rfl, hv⟩ := onP_ex hv
    obtain ⟨vs, hk, hn, hrun⟩ := lds_run (P := P) (o := off) (i := 0) (acc := #[]) hv
    exact .mk (.agg ⟨vs⟩) _ (agrees_v _) hk fun w hw => by
      have := hrun w hw
      simp [execOp, ho, hs.ev hx, Instr.loadAt, Instr.sureAddr, loadVar, run_agg1 hd, run_size hz, loadCells, this]
  · exact hv.elim
theorem s_bld_s {t : TypeId} {ps : Array (Nat × Operand)} {z : List Value} {qs : List (Nat × Nat × Operand)} {zv : Value} {fs : Array Field} (ho : o.op = .build t ps) (hz : zeroD P t = some zv) (hzl : valCells zv = z)
    (hd : P.underlying t = some (.struct fs)) (h1 : allSized P fs.toList = true) (h2 : placesOk P fs ps.toList qs = true) (hs : Sim f a) (hv : (VOp.bld z qs).val f h K) : V P o h a K := by
  simp only [VOp.val] at hv
  obtain ⟨r0, hr0, _⟩ := mapM_sizes P default fs.toList [] h1
  have hloc : ∀ w : World, ((fs.toList.mapM fun f => do pure (f.offset, ← sizeOf f.type) : Sem (List (Nat × Nat))).run P w = .ok r0 w) := by
    intro w
    obtain ⟨r, hr, _⟩ := mapM_sizes P w fs.toList [] h1
    have : r = r0 := by
      clear hv
      have go : ∀ (l : List Field) (w : World) (r r0 : List (Nat × Nat)), allSized P l = true → ((l.mapM fun f => do pure (f.offset, ← sizeOf f.type) : Sem (List (Nat × Nat))).run P w = .ok r w) →
          ((l.mapM fun f => do pure (f.offset, ← sizeOf f.type) : Sem (List (Nat × Nat))).run P default = .ok r0 default) → r = r0 := by
        intro l
        induction l with
        | nil => intro w r r0 _ e1 e2; simp at e1 e2; rw [e1, e2]
        | cons g l ih =>
          intro w r r0 hg e1 e2
          simp only [allSized, Bool.and_eq_true, Option.isSome_iff_exists] at hg
          obtain ⟨⟨n, hn⟩, hg⟩ := hg
          obtain ⟨q, hq, _⟩ := mapM_sizes P w l [] hg
          obtain ⟨q', hq', _⟩ := mapM_sizes P default l [] hg
          simp only [List.mapM_cons, Sem.run_bind, run_size hn, Result.andThen_ok, Sem.run_pure] at e1 e2
          rw [hq] at e1; rw [hq'] at e2
          simp at e1 e2
          rw [← e1, ← e2, ih w q q' hg hq hq']
      exact go _ _ _ _ h1 hr hr0
    rw [this] at hr; exact hr
  obtain ⟨r1, hr1, hget⟩ := mapM_sizes P default fs.toList [] h1
  have e : r1 = r0 := by rw [hr1] at hr0; simpa using hr0
  subst e
  obtain ⟨vs, hk, hfill⟩ := fill_run (f := f) (a := a) (fun i => (⟨r1⟩ : Array (Nat × Nat))[i]?) hs ps.toList qs z _
    (places_sound P fs ps.toList qs h2 ⟨r1⟩ (fun i g hg n hn => by have := hget i g (by simpa using hg) n hn; simpa using this)) hv
  refine .mk (.agg ⟨vs⟩) _ (agrees_v _) hk fun w hw => ?_
  have hm : (fs.mapM (fun f => do pure (f.offset, ← sizeOf f.type)) : Sem (Array (Nat × Nat))).run P w = .ok ⟨r1⟩ w := by
    rw [Array.mapM_eq_mapM_toList]
    simp only [Sem.run_map, hloc w, Result.andThen_ok]
  have hz' : zv.cells = z.toArray := by rw [cells_eq, hzl]
  have hf' : Instr.fill (fun i => (⟨r1⟩ : Array (Nat × Nat))[i]?) z.toArray (ps.map fun (i, x) => (i, a.eval x)).toList = some vs.toArray := by
    rw [Array.toList_map]; exact hfill
  simp only [execOp, ho, Instr.build, Sem.run_bind, run_zero hz, run_und hd, Result.andThen_ok, hm, hz', hf', Sem.run_pure]
end Go.Fw

/- Operations that only compute or read: the law, third part: all of them. -/
set_option linter.unusedVariables false
set_option linter.unusedSimpArgs false
namespace Go.Fw
variable {P : Program} {o : Oper} {f : Fr} {h : H} {a : Act} {K : Slot → Prop}

theorem s_bld_a {t e : TypeId} {m n : Nat} {ps : Array (Nat × Operand)} {z : List Value} {qs : List (Nat × Nat × Operand)} {zv : Value} (ho : o.op = .build t ps) (hz : zeroD P t = some zv) (hzl : valCells zv = z)
    (hd : P.underlying t = some (.array m e)) (h1 : sizeD P e = some n) (h2 : placesOkA n ps.toList qs = true) (hs : Sim f a) (hv : (VOp.bld z qs).val f h K) : V P o h a K := by
  simp only [VOp.val] at hv
  obtain ⟨vs, hk, hfill⟩ := fill_run (f := f) (a := a) (fun i => some (i * n, n)) hs ps.toList qs z _ (placesA_sound n ps.toList qs h2) hv
  refine .mk (.agg ⟨vs⟩) _ (agrees_v _) hk fun w hw => ?_
  have hz' : zv.cells = z.toArray := by rw [cells_eq, hzl]
  have hf' : Instr.fill (fun i => some (i * n, n)) z.toArray (ps.map fun (i, x) => (i, a.eval x)).toList = some vs.toArray := by
    rw [Array.toList_map]; exact hfill
  simp only [execOp, ho, Instr.build, Sem.run_bind, run_zero hz, run_und hd, Result.andThen_ok, run_size h1, hz', hf', Sem.run_pure]

theorem s_fld {t : TypeId} {j off : Nat} {n : Option Nat} {x : Operand} {fs : Array Field} {g : Field} (ho : o.op = .field t x j) (hd : P.underlying t = some (.struct fs)) (hg : fs[j]? = some g) (hoff : g.offset = off)
    (hn : (match n with | some n => aggD (desc P g.type) && sizeD P g.type == some n | none => scalarD (desc P g.type)) = true) (hs : Sim f a) (hv : (VOp.fld off n x).val f h K) : V P o h a K := by
  simp only [VOp.val] at hv
  split at hv
  · rename_i l hx
    split at hv
    · rename_i n
      obtain ⟨hl, hv⟩ := hv
      simp only [Bool.and_eq_true, beq_iff_eq] at hn
      refine .mk _ _ (agrees_v _) hv fun w _ => ?_
      simp [execOp, ho, hs.ev hx, Instr.field, run_und hd, hg, asAgg, part, run_agg1 hn.1, run_size hn.2, hoff, takeV_eq l off n hl]
    · split at hv
      · rename_i v hv'
        rw [nthV_get] at hv'
        exact .mk v _ (agrees_v _) hv fun w _ => by
          simp [execOp, ho, hs.ev hx, Instr.field, run_und hd, hg, asAgg, part, run_agg0 hn, hoff, hv']
      · exact hv.elim
  · exact hv.elim

theorem s_fad {t : TypeId} {j off n : Nat} {x : Operand} {fs : Array Field} {g : Field} (ho : o.op = .fieldAddr t x j) (hd : P.underlying t = some (.struct fs)) (hg : fs[j]? = some g) (hoff : g.offset = off)
    (hn : sizeD P g.type = some (n + 1)) (hs : Sim f a) (hv : (VOp.fad off x).val f h K) : V P o h a K := by
  simp only [VOp.val] at hv
  split at hv
  · rename_i p hx
    obtain ⟨b, q, rfl, hv⟩ := onP_ex hv
    exact .mk _ _ (agrees_v _) hv fun w _ => by
      simp [execOp, ho, hs.ev hx, Instr.fieldAt, Instr.sureAddr, run_und hd, hg, fieldPlace, run_size hn, hoff, add_none]
  · exact hv.elim

theorem s_idx {t e : TypeId} {size : Nat} {x i : Operand} (ho : o.op = .indexAddr t x i) (hd : P.underlying t = some (.slice e)) (hz : sizeD P e = some size) (hs : Sim f a) (hv : (VOp.idx size x i).val f h K) : V P o h a K := by
  simp only [VOp.val] at hv
  split at hv
  · rename_i p n c k i hx hi
    obtain ⟨h0, h1, hv⟩ := hv
    obtain ⟨b, q, rfl, hv⟩ := onP_ex hv
    exact .mk _ _ (agrees_v _) hv fun w _ => by
      simp [execOp, ho, hs.ev hx, hs.ev hi, Instr.indexAt, asIntOf, run_und hd, run_size hz, h0, h1, add_none]
  · exact hv.elim
theorem s_idr {t e : TypeId} {n size : Nat} {x i : Operand} (ho : o.op = .indexAddr t x i) (hd : P.underlying t = some (.array n e)) (hz : sizeD P e = some size) (hs : Sim f a) (hv : (VOp.idr n size x i).val f h K) : V P o h a K := by
  simp only [VOp.val] at hv
  split at hv
  · rename_i p k i hx hi
    obtain ⟨h0, h1, hv⟩ := hv
    obtain ⟨b, q, rfl, hv⟩ := onP_ex hv
    exact .mk _ _ (agrees_v _) hv fun w _ => by
      simp [execOp, ho, hs.ev hx, hs.ev hi, Instr.indexAt, Instr.sureAddr, asIntOf, run_und hd, run_size hz, h0, h1, add_none]
  · exact hv.elim
theorem s_ixs {t : TypeId} {x i : Operand} (ho : o.op = .index t x i) (hd : P.underlying t = some .string) (hs : Sim f a) (hv : (VOp.ixs x i).val f h K) : V P o h a K := by
  simp only [VOp.val] at hv
  split at hv
  · rename_i s k i hx hi
    obtain ⟨h0, c, hc, hv⟩ := hv
    exact .mk _ _ (agrees_v _) hv fun w _ => by
      simp [execOp, ho, hs.ev hx, hs.ev hi, Instr.index, asIntOf, run_und hd, h0, hc]
  · exact hv.elim

theorem bound_run {k : IntKind} {n : Int} {y : Nat} {code : BoundsCode} (h0 : 0 ≤ n) (h1 : n ≤ y) (w : World) : (Instr.sliceBound (.int k n) y code).run P w = .ok n.toNat w := by
  simp [Instr.sliceBound, asIntOf, h0, h1]
theorem cut_run {isSlice : Bool} {ln cp : Nat} {l u : Option Operand} {Q : Int → Int → Prop} (hs : Sim f a) (hle : ln ≤ cp) (hc : cutB f ln cp l u Q) :
    ∃ x y : Int, 0 ≤ x ∧ x ≤ y ∧ y ≤ cp ∧ (l = none → x = 0) ∧ Q x y ∧ ∀ w, (Instr.sliceBounds isSlice ln cp (l.map a.eval) (u.map a.eval) none).run P w = .ok (x.toNat, y.toNat, cp) w := by
  unfold cutB at hc
  cases u with
  | none =>
    cases l with
    | none => exact ⟨0, ln, by omega, by omega, by omega, fun _ => rfl, hc, fun w => by simp [Instr.sliceBounds]⟩
    | some x =>
      simp only at hc
      split at hc
      · rename_i k m hx
        obtain ⟨h0, h1, hq⟩ := hc
        exact ⟨m, ln, h0, h1, by omega, (fun h => by cases h), hq, fun w => by simp [Instr.sliceBounds, hs.ev hx, bound_run h0 h1]⟩
      · exact hc.elim
  | some y =>
    simp only at hc
    split at hc
    · rename_i k e hy
      obtain ⟨h0, h1, hc⟩ := hc
      cases l with
      | none => exact ⟨0, e, by omega, h0, h1, fun _ => rfl, hc, fun w => by simp [Instr.sliceBounds, hs.ev hy, bound_run h0 h1]⟩
      | some x =>
        simp only at hc
        split at hc
        · rename_i k' m hx
          obtain ⟨g0, g1, hq⟩ := hc
          have : m ≤ (e.toNat : Int) := by omega
          exact ⟨m, e, g0, g1, h1, (fun h => by cases h), hq, fun w => by simp [Instr.sliceBounds, hs.ev hx, hs.ev hy, bound_run h0 h1, bound_run g0 this]⟩
        · exact hc.elim
    · exact hc.elim

theorem s_slc {t e : TypeId} {size : Nat} {x : Operand} {l u : Option Operand} (ho : o.op = .slice t x l u none) (hd : P.underlying t = some (.slice e)) (hz : sizeD P e = some size) (hs : Sim f a) (hv : (VOp.slc size x l u).val f h K) : V P o h a K := by
  simp only [VOp.val] at hv
  split at hv
  · rename_i p n c hx
    obtain ⟨hle, hv⟩ := hv
    obtain ⟨y, z, h0, h1, h2, h3, ⟨q, hq, hk⟩, hrun⟩ := cut_run (P := P) (isSlice := true) hs hle hv
    refine .mk _ _ (agrees_v _) hk fun w _ => ?_
    have hq' : (if c = y.toNat then p else p.map fun x => x.add (y.toNat * size)) = q := by
      cases l with
      | none =>
        have := h3 rfl; subst this
        simp at hq; subst hq
        split
        · rfl
        · cases q <;> simp [Addr.add]
      | some l =>
        simp only at hq
        by_cases hc : c = y.toNat
        · rw [if_pos hc]; exact (hq.1 (by omega)).symm
        · rw [if_neg hc]; exact (hq.2 (by omega)).symm
    simp only [execOp, ho, hs.ev hx, Instr.sliceAt, Instr.slice, run_und hd, Sem.run_bind, Result.andThen_ok, Option.map_none, hrun w, run_size hz, Sem.run_pure, hq']
    have e1 : z.toNat - y.toNat = (z - y).toNat := by omega
    have e2 : c - y.toNat = (c - y).toNat := by omega
    rw [e1, e2]
  · exact hv.elim
theorem s_sls {t : TypeId} {x : Operand} {l u : Option Operand} (ho : o.op = .slice t x l u none) (hd : P.underlying t = some .string) (hs : Sim f a) (hv : (VOp.sls x l u).val f h K) : V P o h a K := by
  simp only [VOp.val] at hv
  split at hv
  · rename_i s hx
    obtain ⟨y, z, h0, h1, h2, h3, hk, hrun⟩ := cut_run (P := P) (isSlice := false) hs (Nat.le_refl _) hv
    refine .mk _ _ (agrees_v _) hk fun w _ => ?_
    simp [execOp, ho, hs.ev hx, Instr.sliceAt, Instr.slice, run_und hd, hrun w]
  · exact hv.elim
theorem onP_def {b o : Nat} {K : Nat → Nat → Prop} : onP (some ⟨b, o, none⟩) K = K b o := rfl
theorem s_slr {t e : TypeId} {n size : Nat} {x : Operand} {l u : Option Operand} (ho : o.op = .slice t x l u none) (hd : P.underlying t = some (.array n e)) (hz : sizeD P e = some size) (hs : Sim f a) (hv : (VOp.slr n size x l u).val f h K) : V P o h a K := by
  simp only [VOp.val] at hv
  split at hv
  · rename_i p hx
    obtain ⟨b, off, rfl, hv'⟩ := onP_ex hv
    clear hv; have hv := hv'; clear hv'
    obtain ⟨y, z, h0, h1, h2, h3, ⟨q, hq, hk⟩, hrun⟩ := cut_run (P := P) (isSlice := false) hs (Nat.le_refl _) hv
    refine .mk _ _ (agrees_v _) hk fun w _ => ?_
    have hq' : (if n = y.toNat then (⟨b, off, none⟩ : Addr) else (⟨b, off, none⟩ : Addr).add (y.toNat * size)) = q := by
      rw [add_none]
      cases l with
      | none =>
        have := h3 rfl; subst this
        simp at hq; subst hq
        split <;> simp
      | some l =>
        simp only at hq
        by_cases hc : n = y.toNat
        · rw [if_pos hc]; exact (hq.1 (by omega)).symm
        · rw [if_neg hc]; exact (hq.2 (by omega)).symm
    simp only [execOp, ho, hs.ev hx, Instr.sliceAt, Instr.sureAddr, run_und hd, Sem.run_bind, Result.andThen_ok, Option.map_none, hrun w, run_size hz, Sem.run_pure, hq']
    have e1 : z.toNat - y.toNat = (z - y).toNat := by omega
    have e2 : n - y.toNat = (n - y).toNat := by omega
    rw [e1, e2]
  · exact hv.elim
theorem s_cvi {s t : TypeId} {d : TypeDesc} {k : IntKind} {x : Operand} (ho : o.op = .convert s t x) (hd : P.underlying t = some (.int k)) (hsd : P.underlying s = some d) (hs : Sim f a) (hv : (VOp.cvi k x).val f h K) : V P o h a K := by
  simp only [VOp.val] at hv
  split at hv
  · rename_i j n hx
    exact .mk _ _ (agrees_v _) hv.2 fun w _ => by
      simp [execOp, ho, hs.ev hx, convert, run_und hd, run_und hsd, Conv.intToInt, wrap_in hv.1]
  · exact hv.elim
theorem s_ifc {t : TypeId} {x : Operand} (ho : o.op = .makeInterface t x) (hd1 : P.underlying t ≠ none) (hn : ∀ ms, P.underlying t ≠ some (.interface ms)) (hs : Sim f a) (hv : (VOp.ifc t x).val f h K) : V P o h a K := by
  simp only [VOp.val] at hv
  split at hv
  · rename_i v hx
    obtain ⟨d, hd⟩ : ∃ d, P.underlying t = some d := by cases hd : P.underlying t with | none => exact absurd hd hd1 | some d => exact ⟨d, rfl⟩
    refine .mk _ _ (agrees_v _) hv fun w _ => ?_
    have : (Instr.makeInterface t v).run P w = .ok (.iface t v) w := by
      unfold Instr.makeInterface
      simp only [Sem.run_bind, run_und hd, Result.andThen_ok]
      cases d <;> first | rfl | (exact absurd hd (hn _))
    simp [execOp, ho, hs.ev hx, this]
  · exact hv.elim
theorem s_ext {x : Operand} {i : Nat} (ho : o.op = .extract x i) (hs : Sim f a) (hv : (VOp.ext x i).val f h K) : V P o h a K := by
  simp only [VOp.val] at hv
  split at hv
  · rename_i l hx
    split at hv
    · rename_i v hv'
      rw [nthV_get] at hv'
      exact .mk v _ (agrees_v _) hv fun w _ => by simp [execOp, ho, hs.ev hx, Instr.extract, hv']
    · exact hv.elim
  · exact hv.elim
theorem ovs_run (hs : Sim f a) : ∀ (l : List Operand) (Q : List Value → Prop), ovs f l Q → Q (l.map a.eval)
  | [], _, h => h
  | x :: l, Q, h => by
    unfold ovs at h
    split at h
    · rename_i v hx
      have := ovs_run hs l _ h
      rw [List.map_cons, hs.ev hx]; exact this
    · exact h.elim
theorem s_fnv {fn : Fn} {fi ca : Array Operand} (ho : o.op = .makeFunc fn fi ca) (hs : Sim f a) (hv : (VOp.fnv fn fi.toList ca.toList).val f h K) : V P o h a K := by
  simp only [VOp.val] at hv
  have h1 := ovs_run hs _ _ hv
  have h2 := ovs_run hs _ _ h1
  refine .mk _ _ (agrees_v _) h2 fun w _ => ?_
  simp only [execOp, ho, Instr.makeFunc, Sem.run_bind, Sem.run_pure, Result.andThen_ok]
  congr 4 <;> (apply Array.ext'; simp)
theorem s_nck {x : Operand} (ho : o.op = .nilCheck x) (hs : Sim f a) (hv : (VOp.nck x).val f h K) : V P o h a K := by
  simp only [VOp.val] at hv
  split at hv
  · rename_i p hx
    cases p with
    | none => exact absurd rfl hv.1
    | some p => exact .mk _ _ (agrees_v _) hv.2 fun w _ => by simp [execOp, ho, hs.ev hx]
  · rename_i g fi ca hx
    exact .mk _ _ (agrees_v _) hv fun w _ => by simp [execOp, ho, hs.ev hx]
  · rename_i t v hx
    exact .mk _ _ (agrees_v _) hv fun w _ => by simp [execOp, ho, hs.ev hx]
  · exact hv.elim

/-- **What is checked and reckoned is what the operation comes to.** -/
theorem V.sound {vo : VOp} (hc : chkV P o.op vo = true) (hs : Sim f a) (hv : vo.val f h K) : V P o h a K := by
  generalize hop : o.op = op at hc
  unfold chkV at hc
  split at hc
  all_goals try simp only [Bool.and_eq_true, beq_iff_eq, Option.isNone_iff_eq_none, Option.isSome_iff_exists] at hc
  · obtain rfl := oeq_eq hc; exact s_mov (.inl hop) hs hv
  · obtain rfl := oeq_eq hc; exact s_mov (.inr hop) hs hv
  · obtain ⟨⟨h1, h2⟩, h3⟩ := hc; obtain rfl := oeq_eq h1; obtain rfl := oeq_eq h2; obtain rfl := oeq_eq h3; exact s_pick hop hs hv
  · obtain ⟨⟨⟨h1, h2⟩, h3⟩, h4⟩ := hc; obtain rfl := bopq_eq h1; obtain rfl := oeq_eq h3; obtain rfl := oeq_eq h4; exact s_ar hop h2 hs hv
  · obtain ⟨⟨⟨h1, h2⟩, h3⟩, h4⟩ := hc; obtain rfl := bopq_eq h1; obtain rfl := oeq_eq h3; obtain rfl := oeq_eq h4
    exact s_dv hop (by revert h2; unfold isDv; split <;> simp) hs hv
  · obtain ⟨⟨⟨h1, h2⟩, h3⟩, h4⟩ := hc; obtain rfl := bopq_eq h1; obtain rfl := oeq_eq h3; obtain rfl := oeq_eq h4
    exact s_dt hop (by revert h2; unfold isDv; split <;> simp) hs hv
  · obtain ⟨⟨⟨h1, h2⟩, h3⟩, h4⟩ := hc; obtain rfl := bopq_eq h1; obtain rfl := oeq_eq h3; obtain rfl := oeq_eq h4; exact s_bt hop h2 hs hv
  · obtain ⟨⟨⟨h1, h2⟩, h3⟩, h4⟩ := hc; obtain rfl := bopq_eq h1; obtain rfl := oeq_eq h3; obtain rfl := oeq_eq h4
    exact s_sh hop (by revert h2; unfold isSh; split <;> simp) hs hv
  · obtain ⟨⟨⟨h1, h2⟩, h3⟩, h4⟩ := hc; obtain rfl := bopq_eq h1; obtain rfl := oeq_eq h3; obtain rfl := oeq_eq h4; exact s_cmp hop h2 hs hv
  · obtain ⟨⟨⟨⟨h1, h2⟩, h5⟩, h3⟩, h4⟩ := hc; obtain rfl := bopq_eq h1; obtain rfl := oeq_eq h3; obtain rfl := oeq_eq h4
    refine s_cmb hop (isEq_or h2) ?_ hs hv
    unfold desc at h5; split at h5 <;> first | assumption | cases h5
  · obtain ⟨⟨⟨h1, h2⟩, h3⟩, h4⟩ := hc; obtain rfl := bopq_eq h1; obtain rfl := oeq_eq h3; obtain rfl := oeq_eq h4; exact s_cms hop (isEq_or h2) hs hv
  · obtain ⟨⟨⟨h1, h2⟩, h3⟩, h4⟩ := hc; obtain rfl := bopq_eq h1; exact s_isn hop h2 h3 h4 hs hv
  · obtain ⟨⟨⟨⟨h1, h2⟩, h5⟩, h3⟩, h4⟩ := hc; obtain rfl := bopq_eq h1; obtain rfl := oeq_eq h3; obtain rfl := oeq_eq h4
    unfold desc at h5; split at h5
    · rename_i fs hd; simp only [Bool.and_eq_true, Bool.not_eq_true'] at h5
      exact s_eqa hop h2 hd h5.1.1 h5.1.2 h5.2 hs hv
    · cases h5
  · obtain ⟨⟨h1, h3⟩, h4⟩ := hc; obtain rfl := bopq_eq h1; obtain rfl := oeq_eq h3; obtain rfl := oeq_eq h4; exact s_cat hop hs hv
  · obtain ⟨h1, h2⟩ := hc; obtain rfl := oeq_eq h2; split at h1 <;> first | exact s_ng hop hs hv | cases h1
  · obtain ⟨h1, h2⟩ := hc; obtain rfl := oeq_eq h2; split at h1 <;> first | exact s_no hop hs hv | cases h1
  · obtain ⟨h1, h2⟩ := hc
    split at h1
    · rename_i c x' hcal; split at h2
      · rename_i x t ha ht; simp only [Bool.and_eq_true] at h2; obtain ⟨h2, h3⟩ := h2; obtain rfl := oeq_eq h2
        unfold desc at h3; split at h3
        · rename_i e hd; exact s_len hop hcal ha ht hd hs hv
        · cases h3
      · cases h2
    · cases h1
  · obtain ⟨h1, h2⟩ := hc
    split at h1
    · rename_i c x' hcal; split at h2
      · rename_i x t ha ht; simp only [Bool.and_eq_true] at h2; obtain ⟨h2, h3⟩ := h2; obtain rfl := oeq_eq h2
        unfold desc at h3; split at h3
        · rename_i hd; exact s_lns hop hcal ha ht hd hs hv
        · cases h3
      · cases h2
    · cases h1
  · obtain ⟨h1, h2⟩ := hc
    split at h1
    · rename_i c x' hcal; split at h2
      · rename_i x t ha ht; simp only [Bool.and_eq_true] at h2; obtain ⟨h2, h3⟩ := h2; obtain rfl := oeq_eq h2
        unfold desc at h3; split at h3
        · rename_i e hd; exact s_cap hop hcal ha ht hd hs hv
        · cases h3
      · cases h2
    · cases h1
  · obtain ⟨h1, h2⟩ := hc
    split at h2
    · rename_i x y ha; simp only [Bool.and_eq_true] at h2; obtain ⟨h2, h3⟩ := h2; obtain rfl := oeq_eq h2; obtain rfl := oeq_eq h3
      split at h1
      · rename_i hcal; subst h1; exact s_mnx hop (by simpa using hcal) ha hs hv
      · rename_i hcal; simp at h1; subst h1; exact s_mnx hop (by simpa using hcal) ha hs hv
      · cases h1
    · cases h2
  · obtain ⟨h1, h2⟩ := hc; obtain rfl := oeq_eq h2; exact s_ld hop h1 hs hv
  · obtain ⟨⟨h1, h3⟩, h2⟩ := hc; obtain rfl := oeq_eq h2; exact s_lda hop h1 h3 hs hv
  · obtain ⟨h1, h2⟩ := hc
    split at h1
    · rename_i zv hz
      have hzl := veqL_eq h1
      unfold desc at h2; split at h2
      · rename_i fs hd; simp only [Bool.and_eq_true] at h2; exact s_bld_s hop hz hzl hd h2.1 h2.2 hs hv
      · rename_i e hd; split at h2
        · rename_i n hn; exact s_bld_a hop hz hzl hd hn h2 hs hv
        · cases h2
      · cases h2
    · cases h1
  · obtain ⟨h1, h2⟩ := hc; obtain rfl := oeq_eq h1
    unfold desc at h2; split at h2
    · rename_i fs hd; split at h2
      · rename_i g hg; simp only [Bool.and_eq_true, beq_iff_eq] at h2; exact s_fld hop hd hg h2.1 h2.2 hs hv
      · cases h2
    · cases h2
  · obtain ⟨h1, h2⟩ := hc; obtain rfl := oeq_eq h1
    unfold desc at h2; split at h2
    · rename_i fs hd; split at h2
      · rename_i g hg; simp only [Bool.and_eq_true, beq_iff_eq] at h2; obtain ⟨h2, h3⟩ := h2
        split at h3
        · rename_i n hn; exact s_fad hop hd hg h2 hn hs hv
        · cases h3
      · cases h2
    · cases h2
  · obtain ⟨⟨h1, h2⟩, h3⟩ := hc; obtain rfl := oeq_eq h1; obtain rfl := oeq_eq h2
    unfold desc at h3; split at h3
    · rename_i e hd; exact s_idx hop hd (by simpa using h3) hs hv
    · cases h3
  · obtain ⟨⟨h1, h2⟩, h3⟩ := hc; obtain rfl := oeq_eq h1; obtain rfl := oeq_eq h2
    unfold desc at h3; split at h3
    · rename_i n e hd; simp only [Bool.and_eq_true, beq_iff_eq] at h3; obtain ⟨rfl, h3⟩ := h3; exact s_idr hop hd h3 hs hv
    · cases h3
  · obtain ⟨⟨h1, h2⟩, h3⟩ := hc; obtain rfl := oeq_eq h1; obtain rfl := oeq_eq h2
    unfold desc at h3; split at h3
    · rename_i hd; exact s_ixs hop hd hs hv
    · cases h3
  · obtain ⟨⟨⟨⟨h1, h2⟩, h4⟩, h5⟩, h3⟩ := hc; obtain rfl := oeq_eq h1; obtain rfl := oeqO_eq h2; obtain rfl := oeqO_eq h4; subst h5
    unfold desc at h3; split at h3
    · rename_i e hd; exact s_slc hop hd (by simpa using h3) hs hv
    · cases h3
  · obtain ⟨⟨⟨⟨h1, h2⟩, h4⟩, h5⟩, h3⟩ := hc; obtain rfl := oeq_eq h1; obtain rfl := oeqO_eq h2; obtain rfl := oeqO_eq h4; subst h5
    unfold desc at h3; split at h3
    · rename_i hd; exact s_sls hop hd hs hv
    · cases h3
  · obtain ⟨⟨⟨⟨h1, h2⟩, h4⟩, h5⟩, h3⟩ := hc; obtain rfl := oeq_eq h1; obtain rfl := oeqO_eq h2; obtain rfl := oeqO_eq h4; subst h5
    unfold desc at h3; split at h3
    · rename_i n e hd; simp only [Bool.and_eq_true, beq_iff_eq] at h3; obtain ⟨rfl, h3⟩ := h3; exact s_slr hop hd h3 hs hv
    · cases h3
  · obtain ⟨⟨h1, h2⟩, d, h3⟩ := hc; obtain rfl := oeq_eq h1
    unfold desc at h2; split at h2
    · rename_i j hd; obtain rfl := kq_eq h2; exact s_cvi hop hd h3 hs hv
    · cases h2
  · obtain ⟨⟨h1, rfl⟩, h2⟩ := hc; obtain rfl := oeq_eq h1
    unfold desc at h2
    split at h2
    · cases h2
    · cases h2
    · rename_i hn1 hn2
      exact s_ifc hop hn2 hn1 hs hv
  · obtain ⟨h1, rfl⟩ := hc; obtain rfl := oeq_eq h1; exact s_ext hop hs hv
  · obtain ⟨⟨rfl, h1⟩, h2⟩ := hc; rw [← oeqL_eq h1, ← oeqL_eq h2] at hv; exact s_fnv hop hs hv
  · obtain rfl := oeq_eq hc; exact s_nck hop hs hv
  · obtain ⟨h1, h2⟩ := hc; obtain rfl := oeq_eq h2; exact s_ldf hop h1 hs hv
  · cases hc
end Go.Fw

/- Operations that make, write and call: what they come to, over the heap alone. -/
set_option linter.unusedVariables false
set_option linter.unusedSimpArgs false
namespace Go.Fw

def upd (h : H) (b : Nat) (o : Obj) : H := h.setIfInBounds b o
def repV (z : List Value) (k : Nat) : List Value := (List.replicate k z).flatten
def oneA (vs : List Value) : Bool := vs.all (·.oneCell')
/-- Cells read in one. -/
def rdc (h : H) (p : Option Addr) (k : Nat) (vs : List Value) : Prop :=
  vs.length = k ∧ (0 < k → ∃ b o, p = some ⟨b, o, none⟩ ∧ ∀ j, j < k → cell h ⟨b, o + j, none⟩ = vs[j]?)

/-- The call of a function, over the heap alone: whatever the tape says. -/
def HC (P : Program) (g : FuncId) (args : List Value) (h : H) (R : Value → H → Prop) : Prop :=
  ∀ w : World, w.heap = h → Calls P g ⟨args⟩ w fun e w' => ∃ v, e = .returned v ∧ R v w'.heap ∧ w'.os = w.os ∧ w'.output = w.output
theorem HC.mono {P : Program} {g : FuncId} {args : List Value} {h : H} {R R' : Value → H → Prop} (x : HC P g args h R) (hr : ∀ v h', R v h' → R' v h') : HC P g args h R' :=
  fun w hw => (x w hw).mono fun e w' ⟨v, e1, e2, e3⟩ => ⟨v, e1, hr _ _ e2, e3⟩

/-- The wide fence, in a round of a loop over a function or in none. -/
def FW (r : Option Nat) : Fence := { fn := fun _ => True, depth := none, alive := false, round := r }
theorem callsIn_FW {P : Program} {r : Option Nat} {n : Nat} {g : FuncId} {args : Array Value} {w : World} {R : Ending → World → Prop} : CallsIn (FW r) n P g args w R ↔ Calls P g args w R :=
  callsIn_wide (n := n)

/-- What an operation that goes on elsewhere comes to: a call, or a round of a loop over a function. -/
def Goes (P : Program) : Next → World → (Ending → World → Prop) → Prop
  | .enter g args, w, R => Calls P g args w R
  | .round l f tmps asgn body, w, R => RoundIn (FW none) 0 P l f tmps asgn body w R
  | _, _, _ => False
theorem Goes.mono {P : Program} {nx : Next} {w : World} {R R' : Ending → World → Prop} (h : Goes P nx w R) (hr : ∀ e w', R e w' → R' e w') : Goes P nx w R' := by
  cases nx with
  | enter g args => exact Calls.mono h hr
  | round l f tmps asgn body => exact RoundIn.mono h hr
  | _ => exact h.elim
/-- The call of yield of the loop l, over the heap alone. -/
def HY (P : Program) (l : Nat) (args : List Value) (h : H) (R : Value → H → Prop) : Prop :=
  ∀ w : World, w.heap = h → ∃ nx, (Instr.yield l ⟨args⟩).run P w = .ok nx w ∧ Goes P nx w fun e w' => ∃ v, e = .returned v ∧ R v w'.heap ∧ w'.os = w.os ∧ w'.output = w.output
theorem HY.mono {P : Program} {l : Nat} {args : List Value} {h : H} {R R' : Value → H → Prop} (x : HY P l args h R) (hr : ∀ v h', R v h' → R' v h') : HY P l args h R' :=
  fun w hw => let ⟨nx, h1, h2⟩ := x w hw; ⟨nx, h1, h2.mono fun e w' ⟨v, e1, e2, e3⟩ => ⟨v, e1, hr _ _ e2, e3⟩⟩

inductive VT where
  | one (l : Leaf)
  | agg (ls : List Leaf)
inductive RT where
  | unit
  | one (l : Leaf)
  | agg (ls : List Leaf)
  | tup (vs : List VT)
  | fn (g : FuncId) (n : Nat)
def exb : Nat → (List Value → Prop) → Prop
  | 0, K => K []
  | n + 1, K => ∃ b : Nat, exb n fun vs => K (.pointer (some ⟨b, 0, none⟩) :: vs)
theorem exb_some : ∀ {n : Nat} {K : List Value → Prop}, exb n K → ∃ vs, K vs
  | 0, K, h => ⟨_, h⟩
  | n + 1, K, ⟨b, h⟩ => let ⟨vs, h⟩ := exb_some h; ⟨_, h⟩
def exs : List Leaf → (List Value → Prop) → Prop
  | [], K => K []
  | l :: ls, K => l.ex fun v => exs ls fun vs => K (v :: vs)
def VT.ex : VT → (Value → Prop) → Prop
  | .one l, K => l.ex K
  | .agg ls, K => exs ls fun vs => K (.agg ⟨vs⟩)
def exv : List VT → (List Value → Prop) → Prop
  | [], K => K []
  | t :: ts, K => t.ex fun v => exv ts fun vs => K (v :: vs)
def RT.ex : RT → (Value → Prop) → Prop
  | .unit, K => K (.tuple #[])
  | .one l, K => l.ex K
  | .agg ls, K => exs ls fun vs => K (.agg ⟨vs⟩)
  | .tup ts, K => exv ts fun vs => K (.tuple ⟨vs⟩)
  | .fn g n, K => exb n fun vs => K (.func (.func g) ⟨[]⟩ ⟨vs⟩)
theorem exs_some {ls : List Leaf} {K : List Value → Prop} (h : exs ls K) : ∃ vs, K vs := by
  induction ls generalizing K with
  | nil => exact ⟨_, h⟩
  | cons l ls ih => obtain ⟨v, h⟩ := Leaf.ex_some h; obtain ⟨vs, h⟩ := ih h; exact ⟨_, h⟩
theorem VT.ex_some {t : VT} {K : Value → Prop} (h : t.ex K) : ∃ v, K v := by
  cases t with
  | one l => exact Leaf.ex_some h
  | agg ls => obtain ⟨vs, h⟩ := exs_some h; exact ⟨_, h⟩
theorem exv_some {ls : List VT} {K : List Value → Prop} (h : exv ls K) : ∃ vs, K vs := by
  induction ls generalizing K with
  | nil => exact ⟨_, h⟩
  | cons l ls ih => obtain ⟨v, h⟩ := VT.ex_some h; obtain ⟨vs, h⟩ := ih h; exact ⟨_, h⟩
theorem RT.ex_some {t : RT} {K : Value → Prop} (h : t.ex K) : ∃ v, K v := by
  cases t with
  | unit => exact ⟨_, h⟩
  | one l => exact Leaf.ex_some h
  | agg ls => obtain ⟨vs, h⟩ := exs_some h; exact ⟨_, h⟩
  | tup ls => obtain ⟨vs, h⟩ := exv_some h; exact ⟨_, h⟩
  | fn g n => obtain ⟨vs, h⟩ := exb_some h; exact ⟨_, h⟩

def fnOk (P : Program) (g : FuncId) : Bool := match P.funcs[g]? with
  | some fn => fn.body.isSome && fn.name != "runtime.NumGoroutine"
  | none => false

inductive EOp where
  | alc (t : TypeId) (z : List Value)
  | box (t : TypeId) (x : Operand)
  | bsl (e : TypeId) (size : Nat) (z : List Value) (n : Nat) (parts : List (Nat × Nat × Operand))
  | mks (e : TypeId) (size bytes : Nat) (z : List Value) (l c : Operand)
  | sto (n : Nat) (a x : Operand)
  | app (e : TypeId) (size bytes : Nat) (z : List Value) (s x : Operand)
  | cpy (size : Nat) (d s : Operand)
  | clr (size : Nat) (z : List Value) (x : Operand)
  | call (g : FuncId) (args : List Operand) (r : RT)
  | cav (g : Operand) (args : List Operand) (r : RT)
  | cyl (g : Operand) (args : List Operand) (r : RT)

/-- A new block: its number, and the heap with it. -/
structure New (h : H) (o : Obj) (b : Nat) (h' : H) : Prop where
  blk : b = h.size
  eq : h' = h.push o
/-- A block written over. -/
structure Up (h : H) (b : Nat) (o : Obj) (h' : H) : Prop where
  eq : h' = upd h b o
def EOp.den (P : Program) : EOp → Fr → H → (Slot → H → Prop) → Prop
  | .alc t z, f, h, K => ∀ b h', New h (.cells ⟨z⟩ t) b h' → K (.v (.pointer (some ⟨b, 0, none⟩))) h'
  | .box t x, f, h, K => match f.ov x with
    | some v => ∀ b h', New h (.cells ⟨valCells v⟩ t) b h' → K (.v (.pointer (some ⟨b, 0, none⟩))) h'
    | none => False
  | .bsl e size z n ps, f, h, K => fillS f (repV z n) ps fun vs => ∀ b h', New h (.cells ⟨vs⟩ e) b h' → K (.v (.slice (some ⟨b, 0, none⟩) n n)) h'
  | .mks e size bytes z l c, f, h, K => match f.ov l, f.ov c with
    | some (.int _ l), some (.int _ c) => 0 ≤ l ∧ l ≤ c ∧ c * bytes ≤ 140737488355328 ∧ ∀ b h', New h (.cells ⟨repV z c.toNat⟩ e) b h' → K (.v (.slice (some ⟨b, 0, none⟩) l.toNat c.toNat)) h'
    | _, _ => False
  | .sto n a x, f, h, K => match f.ov a, f.ov x with
    | some (.pointer p), some v => onP p fun b o => ∃ cs e, h[b]? = some (.cells ⟨cs⟩ e (0, 0)) ∧ o + n ≤ cs.length ∧ oneA (valCells v) = true ∧ (valCells v).length = n ∧
        ∀ h', Up h b (.cells ⟨setAt cs o (valCells v)⟩ e (0, 0)) h' → K .non h'
    | _, _ => False
  | .app e size bytes z s x, f, h, K => match f.ov s, f.ov x with
    | some (.slice p n c), some (.slice q m _) => (n + m) * bytes ≤ 140737488355328 ∧ ∃ vs, rdc h q (m * size) vs ∧ oneA vs = true ∧
        (n + m ≤ c → (m = 0 → K (.v (.slice p n c)) h) ∧ (0 < m → onP p fun b o => ∃ cs e', h[b]? = some (.cells ⟨cs⟩ e' (0, 0)) ∧ o + (n + m) * size ≤ cs.length ∧
          ∀ h', Up h b (.cells ⟨setAt cs (o + n * size) vs⟩ e' (0, 0)) h' → K (.v (.slice p (n + m) c)) h')) ∧
        (c < n + m → ∃ os, rdc h p (n * size) os ∧ ∀ nc b h', n + m ≤ nc → New h (.cells ⟨os ++ vs ++ repV z (nc - (n + m))⟩ e) b h' → K (.v (.slice (some ⟨b, 0, none⟩) (n + m) nc)) h')
    | _, _ => False
  | .cpy size d s, f, h, K => match f.ov d, f.ov s with
    | some (.slice p n _), some (.slice q m _) => ∃ vs, rdc h q (min m n * size) vs ∧ oneA vs = true ∧
        (min m n = 0 → K (.v (.int .i64 0)) h) ∧ (0 < min m n → onP p fun b o => ∃ cs e', h[b]? = some (.cells ⟨cs⟩ e' (0, 0)) ∧ o + min m n * size ≤ cs.length ∧
          ∀ h', Up h b (.cells ⟨setAt cs o vs⟩ e' (0, 0)) h' → K (.v (.int .i64 (min m n : Nat))) h')
    | _, _ => False
  | .clr size z x, f, h, K => match f.ov x with
    | some (.slice p n _) => (n = 0 → K (.v (.tuple #[])) h) ∧ (0 < n → onP p fun b o => ∃ cs e', h[b]? = some (.cells ⟨cs⟩ e' (0, 0)) ∧ o + n * size ≤ cs.length ∧
          ∀ h', Up h b (.cells ⟨setAt cs o (repV z n)⟩ e' (0, 0)) h' → K (.v (.tuple #[])) h')
    | _ => False
  | .call g args r, f, h, K => ovs f args fun vs => HC P g vs h fun v h' => r.ex fun u => v = u ∧ K (.v u) h'
  | .cav x args r, f, h, K => match f.ov x with
    | some (.func (.func g) ⟨fi⟩ ⟨ca⟩) => fnOk P g = true ∧ ovs f args fun vs => HC P g (fi ++ vs ++ ca) h fun v h' => r.ex fun u => v = u ∧ K (.v u) h'
    | _ => False
  | .cyl x args r, f, h, K => match f.ov x with
    | some (.func (.yield l) ⟨[]⟩ ⟨[]⟩) => ovs f args fun vs => HY P l vs h fun v h' => r.ex fun u => v = u ∧ K (.v u) h'
    | _ => False

def posL : List Value → Bool
  | [] => false
  | _ => true
def chkE (P : Program) : Op → EOp → Bool
  | .alloc t, .alc t' z => t == t' && (match zeroD P t with | some v => veqL (valCells v) z | none => false)
  | .box t x, .box t' x' => t == t' && oeq x x'
  | .buildSlice t n ps, .bsl e size z n' ps' => n == n' && (match desc P t with | some (.slice e') => e' == e | _ => false) && sizeD P e == some size && (match zeroD P e with | some v => veqL (valCells v) z && (valCells v).length == size | none => false) && posL z &&
      n * size ≤ 16777216 && placesOkA size ps.toList ps'
  | .makeSlice t l c, .mks e size bytes z l' c' => (match desc P t with | some (.slice e') => e' == e | _ => false) && (match P.info? e with
      | some i => i.size == size && i.bytes == bytes && (match i.zero with | some v => veqL (valCells v) z && (valCells v).length == size | none => false)
      | none => false) && posL z && oeq l l' && oeq c c' && 0 < bytes
  | .store t a x, .sto n a' x' => oeq a a' && oeq x x' && sizeD P t == some n
  | .call c, .app e size bytes z s x => (match c.callee with | .builtin .append => true | _ => false) && (match c.args, c.argTypes with
      | ⟨[s', x']⟩, ⟨[t, u]⟩ => oeq s' s && oeq x' x && (match desc P t with | some (.slice e') => e' == e | _ => false) && (match desc P u with | some (.slice _) => true | _ => false)
      | _, _ => false) && (match P.info? e with
      | some i => i.size == size && i.bytes == bytes && (match i.zero with | some v => veqL (valCells v) z && (valCells v).length == size | none => false)
      | none => false) && posL z && 0 < bytes
  | .call c, .cpy size d s => (match c.callee with | .builtin .copy => true | _ => false) && (match c.args, c.argTypes with
      | ⟨[d', s']⟩, ⟨[t, _]⟩ => oeq d' d && oeq s' s && (match desc P t with | some (.slice e) => sizeD P e == some size | _ => false)
      | _, _ => false) && 0 < size
  | .call c, .clr size z x => (match c.callee with | .builtin .clear => true | _ => false) && (match c.args, c.argTypes with
      | ⟨[x']⟩, ⟨[t]⟩ => oeq x' x && (match desc P t with | some (.slice e) => (match zeroD P e with | some v => veqL (valCells v) z && (valCells v).length == size | none => false) | _ => false)
      | _, _ => false) && posL z && oneA z
  | .call c, .call g args _ => (match c.callee with | .value (.func g') => g' == g | .value (.const (.func (.func g') ⟨[]⟩ ⟨[]⟩)) => g' == g | _ => false) && oeqL c.args.toList args && fnOk P g
  | .call c, .cyl x args _ => (match c.callee with | .value x' => oeq x' x | _ => false) && oeqL c.args.toList args
  | .call c, .cav x args _ => (match c.callee with | .value x' => oeq x' x | _ => false) && oeqL c.args.toList args
  | _, _ => false
end Go.Fw

/- Operations that make, write and call: the law. -/
set_option linter.unusedVariables false
set_option linter.unusedSimpArgs false
namespace Go.Fw
variable {P : Program} {o : Oper} {f : Fr} {h : H} {a : Act} {K : Slot → H → Prop}

theorem upd_get (h : H) (b c : Nat) (o : Obj) : (upd h b o)[c]? = if c = b ∧ b < h.size then some o else h[c]? := by
  unfold upd
  rw [Array.getElem?_setIfInBounds]
  by_cases e : b = c
  · subst e
    by_cases hb : b < h.size
    · simp [hb]
    · simp [hb]
  · rw [if_neg e, if_neg (fun x => e x.1.symm)]
theorem upd_size (h : H) (b : Nat) (o : Obj) : (upd h b o).size = h.size := by simp [upd]
theorem upd_same {h : H} {b : Nat} {o : Obj} (hb : h[b]? = some o) : upd h b o = h := by
  apply Array.ext_getElem?
  intro i
  rw [upd_get]
  split
  · rename_i e; rw [e.1, hb]
  · rfl
theorem upd_upd (h : H) (b : Nat) (o o' : Obj) : upd (upd h b o) b o' = upd h b o' := by
  apply Array.ext_getElem?
  intro i
  rw [upd_get, upd_get, upd_get, upd_size]
  split <;> rfl
theorem setc_upd {h : H} {b o : Nat} {cs : List Value} {e : TypeId} {v : Value} (hb : h[b]? = some (.cells ⟨cs⟩ e (0, 0))) : setc h ⟨b, o, none⟩ v = upd h b (.cells ⟨cs.set o v⟩ e (0, 0)) := by
  apply Array.ext_getElem?
  intro i
  rw [upd_get]
  unfold setc
  rw [Array.getElem?_modify]
  obtain ⟨hlt, _⟩ := Array.getElem?_eq_some_iff.1 hb
  by_cases hi : b = i
  · subst hi
    rw [if_pos rfl, if_pos ⟨rfl, hlt⟩, hb]
    simp
  · rw [if_neg hi, if_neg (fun x => hi x.1.symm)]
theorem setAt_set : ∀ (cs : List Value) (n : Nat) (v : Value) (vs : List Value), n + 1 + vs.length ≤ cs.length → setAt cs n (v :: vs) = setAt (cs.set n v) (n + 1) vs := by
  intro cs n v vs hl
  apply List.ext_getElem?
  intro i
  rw [setAt_get _ _ _ _ (by simp; omega), setAt_get _ _ _ _ (by simp; omega)]
  by_cases h1 : n + 1 ≤ i ∧ i < n + 1 + vs.length
  · rw [if_pos h1, if_pos (by simp; omega), show i - n = (i - (n + 1)) + 1 by omega]; simp
  · rw [if_neg h1]
    by_cases h2 : n = i
    · subst h2; rw [if_pos (by simp)]; simp; rw [List.getElem?_set_self (by omega)]
    · rw [if_neg (by simp; omega), List.getElem?_set_ne h2]
theorem stc_run {b off : Nat} {e : TypeId} : ∀ (vs : List Value) (i : Nat) (cs : List Value) (w : World), w.heap[b]? = some (.cells ⟨cs⟩ e (0, 0)) → off + i + vs.length ≤ cs.length → oneA vs = true →
    (storeCells ⟨b, off, none⟩ vs i).run P w = .ok () { w with heap := upd w.heap b (.cells ⟨setAt cs (off + i) vs⟩ e (0, 0)) } := by
  intro vs
  induction vs with
  | nil =>
    intro i cs w hb _ _
    have : setAt cs (off + i) [] = cs := by unfold setAt; rfl
    rw [this, upd_same hb]; rfl
  | cons v vs ih =>
    intro i cs w hb hl h1
    simp only [oneA, List.all_cons, Bool.and_eq_true] at h1
    simp only [List.length_cons] at hl
    have hc : cell w.heap ⟨b, off + i, none⟩ = some (cs[off + i]'(by omega)) := by simp [cell, hb]
    have hf : frz w.heap ⟨b, off + i, none⟩ = false := by simp [frz, hb]
    have hst : (store ⟨b, off + i, none⟩ v).run P w = .ok () { w with heap := upd w.heap b (.cells ⟨cs.set (off + i) v⟩ e (0, 0)) } := by
      rw [run_store P w _ v _ h1.1, cell_w, hc, frz_w, hf, setc_w, setc_upd hb]
      rfl
    obtain ⟨hlt, _⟩ := Array.getElem?_eq_some_iff.1 hb
    simp only [storeCells, Sem.run_bind, add_none, hst, Result.andThen_ok]
    rw [ih (i + 1) (cs.set (off + i) v) _ (by simp only; rw [upd_get, if_pos ⟨rfl, hlt⟩]) (by simp; omega) h1.2]
    simp only [upd_upd]
    rw [← Nat.add_assoc, ← setAt_set _ _ _ _ (by omega)]
theorem ldc_run {b off : Nat} {vs : List Value} {w : World} : ∀ (k i : Nat) (acc : Array Value), (∀ j, j < k → cell w.heap ⟨b, off + i + j, none⟩ = vs[j]?) → vs.length = k →
    (loadCellsFrom ⟨b, off, none⟩ i k acc).run P w = .ok (acc ++ vs.toArray) w := by
  induction vs with
  | nil => intro k i acc _ hl; simp at hl; subst hl; simp [loadCellsFrom]
  | cons v vs ih =>
    intro k i acc hc hl
    cases k with
    | zero => simp at hl
    | succ k =>
      have h0 := hc 0 (by omega)
      simp only [Nat.add_zero, List.getElem?_cons_zero] at h0
      simp only [loadCellsFrom, Sem.run_bind, run_load, add_none, cell_w, h0, Result.andThen_ok]
      rw [ih k (i + 1) (acc.push v) (fun j hj => by have := hc (j + 1) (by omega); simp at this; rw [← this]; congr 2; omega) (by simpa using hl)]
      simp
theorem rdc_run {p : Option Addr} {n c size k : Nat} {vs : List Value} {w : World} (hr : rdc w.heap p (k * size) vs) : (Builtin.firstCells size k (.slice p n c)).run P w = .ok vs.toArray w := by
  obtain ⟨hl, hr⟩ := hr
  by_cases h0 : 0 < k * size
  · obtain ⟨b, off, rfl, hc⟩ := hr h0
    simp only [Builtin.firstCells, loadCells]
    rw [ldc_run (vs := vs) (k * size) 0 #[] (by simpa using hc) hl]; simp
  · have hz : k * size = 0 := by omega
    have hv : vs = [] := List.length_eq_zero_iff.1 (by omega)
    subst hv
    cases p with
    | none => simp [Builtin.firstCells]
    | some p => simp [Builtin.firstCells, hz, loadCells, loadCellsFrom]

theorem repV_length (z : List Value) (k : Nat) : (repV z k).length = k * z.length := by simp [repV, List.length_flatten]
theorem repV_get (z : List Value) (k i : Nat) (hi : i < k * z.length) : (repV z k)[i]? = z[i % z.length]? := by
  induction k generalizing i with
  | zero => simp at hi
  | succ k ih =>
    have e : repV z (k + 1) = z ++ repV z k := by simp [repV, List.replicate_succ]
    rw [e]
    have hz : 0 < z.length := by
      rcases Nat.eq_zero_or_pos z.length with h | h
      · rw [h] at hi; simp at hi
      · exact h
    by_cases hlt : i < z.length
    · rw [List.getElem?_append_left hlt, Nat.mod_eq_of_lt hlt]
    · have h2 : (k + 1) * z.length = k * z.length + z.length := Nat.succ_mul _ _
      rw [List.getElem?_append_right (by omega), ih _ (by omega)]
      rw [← Nat.mod_eq_sub_mod (show i ≥ z.length by omega)]
theorem zeros_eq (z : List Value) (n : Nat) (hz : 0 < z.length) : ((Array.range (n * z.length)).map (fun i => (⟨z⟩ : Array Value)[i % z.length]!)) = ⟨repV z n⟩ := by
  apply Array.ext_getElem?
  intro i
  by_cases hi : i < n * z.length
  · have h2 : i % z.length < z.length := Nat.mod_lt _ hz
    rw [Array.getElem?_map, Array.getElem?_range]
    have := repV_get z n i hi
    simp only [List.getElem?_toArray, this, hi, if_true, Option.map_some]
    rw [List.getElem?_eq_getElem h2]
    simp [h2]
  · have : (repV z n).length ≤ i := by rw [repV_length]; omega
    rw [Array.getElem?_eq_none (by simp; omega)]
    simp [List.getElem?_eq_none this]
theorem zeroCells_eq (z : List Value) (n : Nat) (hz : 0 < z.length) : Builtin.zeroCells ⟨z⟩ n = ⟨repV z n⟩ := by
  unfold Builtin.zeroCells
  have := zeros_eq z n hz
  simpa using this

/-- What an operation that makes, writes or calls does at a world. -/
def E (P : Program) (o : Oper) (a : Act) (w : World) (K : Slot → H → Prop) : Prop :=
  (∃ v s w', (execOp a.eval o).run P w = .ok (.value v) w' ∧ Slot.agrees s v ∧ K s w'.heap ∧ w'.os = w.os ∧ w'.output = w.output) ∨
  (∃ w', (execOp a.eval o).run P w = .ok .skip w' ∧ K .non w'.heap ∧ w'.os = w.os ∧ w'.output = w.output) ∨
  (∃ nx, (execOp a.eval o).run P w = .ok nx w ∧ Goes P nx w fun e w' => ∃ v, e = .returned v ∧ (∃ s, Slot.agrees s v ∧ K s w'.heap) ∧ w'.os = w.os ∧ w'.output = w.output)
theorem E.val {w w' : World} {v : Value} {K : Slot → H → Prop} (hr : (execOp a.eval o).run P w = .ok (.value v) w') (hk : K (.v v) w'.heap) (h1 : w'.os = w.os) (h2 : w'.output = w.output) : E P o a w K :=
  .inl ⟨v, _, w', hr, agrees_v v, hk, h1, h2⟩

theorem e_alc {t : TypeId} {z : List Value} {v : Value} (ho : o.op = .alloc t) (hz : zeroD P t = some v) (hv : valCells v = z) {w : World} (hw : w.heap = h) (hk : (EOp.alc t z).den P f h K) : E P o a w K := by
  subst hw
  refine .val (v := .pointer (some ⟨w.heap.size, 0, none⟩)) (w' := { w with heap := w.heap.push (.cells ⟨z⟩ t) }) ?_ (hk _ _ ⟨rfl, rfl⟩) rfl rfl
  simp [execOp, ho, Instr.alloc, run_zero hz, newVar, newRow, cells_eq, hv]
theorem e_box {t : TypeId} {x : Operand} (ho : o.op = .box t x) (hs : Sim f a) {w : World} (hw : w.heap = h) (hk : (EOp.box t x).den P f h K) : E P o a w K := by
  subst hw
  simp only [EOp.den] at hk
  split at hk
  · rename_i v hx
    refine .val (v := .pointer (some ⟨w.heap.size, 0, none⟩)) (w' := { w with heap := w.heap.push (.cells ⟨valCells v⟩ t) }) ?_ (hk _ _ ⟨rfl, rfl⟩) rfl rfl
    simp [execOp, ho, Instr.box, newVar, newRow, cells_eq, hs.ev hx]
  · exact hk.elim
theorem e_bsl {t e : TypeId} {size n : Nat} {z : List Value} {zv : Value} {ps : Array (Nat × Operand)} {qs : List (Nat × Nat × Operand)} (ho : o.op = .buildSlice t n ps) (hd : P.underlying t = some (.slice e)) (hz : sizeD P e = some size)
    (hzv : zeroD P e = some zv) (hzl : valCells zv = z) (hzs : z.length = size) (hp : 0 < z.length) (hn : n * size ≤ 16777216) (hpl : placesOkA size ps.toList qs = true) (hs : Sim f a) {w : World} (hw : w.heap = h)
    (hk : (EOp.bsl e size z n qs).den P f h K) : E P o a w K := by
  subst hw
  simp only [EOp.den] at hk
  obtain ⟨vs, hk, hfill⟩ := fill_run (f := f) (a := a) (fun i => some (i * size, size)) hs ps.toList qs _ _ (placesA_sound size ps.toList qs hpl) hk
  refine .val (v := .slice (some ⟨w.heap.size, 0, none⟩) n n) (w' := { w with heap := w.heap.push (.cells ⟨vs⟩ e) }) ?_ (hk _ _ ⟨rfl, rfl⟩) rfl rfl
  have hz' : zv.cells = z.toArray := by rw [cells_eq, hzl]
  have hf' : Instr.fill (fun i => some (i * size, size)) (repV z n).toArray (ps.map fun (i, x) => (i, a.eval x)).toList = some vs.toArray := by
    rw [Array.toList_map]; exact hfill
  simp only [execOp, ho, Instr.buildSlice, Sem.run_bind, run_und hd, Result.andThen_ok, run_size hz]
  rw [if_neg (by omega)]
  by_cases h0 : n * size = 0
  · rw [if_pos h0]
    have h1 : (repV z n).length = 0 := by rw [repV_length, hzs]; exact h0
    have h2 : (repV z n).toArray = (Array.range (n * size)).map (fun x => (#[] : Array Value)[x % (#[] : Array Value).size]!) := by
      rw [List.length_eq_zero_iff.1 h1, h0]; simp
    rw [h2] at hf'
    simp only [Sem.run_bind, Sem.run_pure, Result.andThen_ok, hf', newRow, run_newObj]
  · rw [if_neg h0]
    have h2 : (repV z n).toArray = (Array.range (n * size)).map (fun x => z.toArray[x % z.toArray.size]!) := by
      rw [← hzs]; exact (zeros_eq z n hp).symm
    rw [h2] at hf'
    simp only [Sem.run_bind, Sem.run_pure, Result.andThen_ok, run_zero hzv, hz', hf', newRow, run_newObj]
theorem e_mks {t e : TypeId} {size bytes : Nat} {z : List Value} {l c : Operand} {i : TypeInfo} {zv : Value} (ho : o.op = .makeSlice t l c) (hd : P.underlying t = some (.slice e)) (hi : P.info? e = some i)
    (h1 : i.size = size) (h2 : i.bytes = bytes) (h3 : i.zero = some zv) (hzl : valCells zv = z) (hzs : z.length = size) (hp : 0 < z.length) (hb : 0 < bytes) (hs : Sim f a) {w : World} (hw : w.heap = h)
    (hk : (EOp.mks e size bytes z l c).den P f h K) : E P o a w K := by
  subst hw
  simp only [EOp.den] at hk
  split at hk
  · rename_i k1 l' k2 c' hl hc
    obtain ⟨g0, g1, g2, hk⟩ := hk
    have hcb : c' ≤ 140737488355328 := by
      have : c' * 1 ≤ c' * (bytes : Int) := Int.mul_le_mul_of_nonneg_left (by omega) (by omega)
      omega
    refine .val (v := .slice (some ⟨w.heap.size, 0, none⟩) l'.toNat c'.toNat) (w' := { w with heap := w.heap.push (.cells ⟨repV z c'.toNat⟩ e) }) ?_ (hk _ _ ⟨rfl, rfl⟩) rfl rfl
    have hz' : zv.cells = z.toArray := by rw [cells_eq, hzl]
    have hwl : IntKind.i64.wrap l' = l' := wrap_in ⟨by simp only [Fw.lo]; omega, by simp only [Fw.hi]; omega⟩
    have hwc : IntKind.i64.wrap c' = c' := wrap_in ⟨by simp only [Fw.lo]; omega, by simp only [Fw.hi]; omega⟩
    have hsz : (sizeOf e).run P w = .ok size w := run_size (by simp [sizeD, hi, h1]) w
    have hzr : (zeroValue e).run P w = .ok zv w := run_zero (by simp [zeroD, hi, h3]) w
    have hbc : ((bytes : Int) * c' > 2 ^ 48) = False := by
      rw [Int.mul_comm]; simp; omega
    simp only [execOp, ho, Instr.makeSlice, Sem.run_bind, run_und hd, Result.andThen_ok, hs.ev hl, hs.ev hc, asInt, asIntOf, Sem.run_pure, typeInfo, run_program, hi, h2, hwl, hwc]
    rw [if_neg (by simp only [hbc, decide_false, Bool.or_false, Bool.or_eq_true, decide_eq_true_eq]; omega)]
    simp only [Sem.run_bind, run_askRoom, Result.andThen_ok, hsz]
    by_cases h0 : c'.toNat * size = 0
    · rw [if_pos h0]
      have h1 : (repV z c'.toNat).length = 0 := by rw [repV_length, hzs]; exact h0
      have h2 : (Array.range (c'.toNat * size)).map (fun x => (#[] : Array Value)[x % (#[] : Array Value).size]!) = (repV z c'.toNat).toArray := by
        rw [List.length_eq_zero_iff.1 h1, h0]; simp
      simp only [Sem.run_bind, Sem.run_pure, Result.andThen_ok, h2, newRow, run_newObj]
    · rw [if_neg h0]
      have h2 : (Array.range (c'.toNat * size)).map (fun x => z.toArray[x % z.toArray.size]!) = (repV z c'.toNat).toArray := by
        rw [← hzs]; exact zeros_eq z c'.toNat hp
      simp only [Sem.run_bind, Sem.run_pure, Result.andThen_ok, hzr, hz', h2, newRow, run_newObj]
  · exact hk.elim
theorem e_sto {t : TypeId} {n : Nat} {x y : Operand} (ho : o.op = .store t x y) (hz : sizeD P t = some n) (hs : Sim f a) {w : World} (hw : w.heap = h) (hk : (EOp.sto n x y).den P f h K) : E P o a w K := by
  subst hw
  simp only [EOp.den] at hk
  split at hk
  · rename_i p v hx hy
    obtain ⟨b, off, rfl, hk⟩ := onP_ex hk
    obtain ⟨cs, e, hb, hl, h1, h2, hk⟩ := hk
    refine .inr (.inl ⟨{ w with heap := upd w.heap b (.cells ⟨setAt cs off (valCells v)⟩ e (0, 0)) }, ?_, hk _ ⟨rfl⟩, rfl, rfl⟩)
    have := stc_run (P := P) (off := off) (valCells v) 0 cs w hb (by omega) h1
    simp only [execOp, ho, hs.ev hx, hs.ev hy, Instr.storeAt, Instr.sureAddr, storeVar, Sem.run_bind, Sem.run_pure, Result.andThen_ok, run_size hz]
    rw [if_neg (by rw [cells_eq]; simp [h2])]
    rw [cells_eq, List.toList_toArray, this]
    simp
  · exact hk.elim

theorem len_run {p : Option Addr} {n c : Nat} (w : World) : (Builtin.lenOf (.slice p n c)).run P w = .ok n w := rfl
theorem e_app {c : Call} {t u e e2 : TypeId} {size bytes : Nat} {z : List Value} {s x : Operand} {i : TypeInfo} {zv : Value} (ho : o.op = .call c) (hc : c.callee = .builtin .append) (ha : c.args = #[s, x]) (ht : c.argTypes = #[t, u])
    (hd : P.underlying t = some (.slice e)) (hd2 : P.underlying u = some (.slice e2)) (hi : P.info? e = some i) (h1 : i.size = size) (h2 : i.bytes = bytes) (h3 : i.zero = some zv) (hzl : valCells zv = z)
    (hzs : z.length = size) (hp : 0 < z.length) (hb : 0 < bytes) (hs : Sim f a) {w : World} (hw : w.heap = h)
    (hk : (EOp.app e size bytes z s x).den P f h K) : E P o a w K := by
  subst hw
  simp only [EOp.den] at hk
  split at hk
  · rename_i p n c' q m d hs' hx
    obtain ⟨hbd, vs, hv, h1v, hin, hout⟩ := hk
    have hz' : zv.cells = z.toArray := by rw [cells_eq, hzl]
    have hsz : (sizeOf e).run P w = .ok size w := run_size (by simp [sizeD, hi, h1]) w
    have hzr : ∀ w, (zeroValue e).run P w = .ok zv w := fun w => run_zero (by simp [zeroD, hi, h3]) w
    have hnm : n + m ≤ 140737488355328 := by
      have : (n + m) * 1 ≤ (n + m) * bytes := Nat.mul_le_mul_left _ hb
      omega
    have hpre : ∀ v w', (Builtin.append_ #[t, u] o.type #[.slice p n c', .slice q m d]).run P w = .ok v w' → (execOp a.eval o).run P w = .ok (.value v) w' := by
      intro v w' hr
      simp [execOp, ho, resolve, hc, ha, ht, invoke, builtin, hs.ev hs', hs.ev hx, hr]
    by_cases hfit : n + m ≤ c'
    · obtain ⟨hin0, hin1⟩ := hin hfit
      by_cases hm : m = 0
      · refine .val (hpre (.slice p n c') w ?_) (hin0 hm) rfl rfl
        subst hm
        have hvs : vs = [] := List.length_eq_zero_iff.1 (by rw [hv.1]; simp)
        subst hvs
        simp only [Builtin.append_, Sem.run_bind, run_und hd, run_und hd2, Result.andThen_ok, hsz, List.getElem?_toArray, List.getElem?_cons_zero, List.getElem?_cons_succ, Sem.run_pure, len_run, Bool.false_eq_true, if_false]
        rw [if_pos (by omega)]
        simp only [Bool.not_false, if_true, Sem.run_bind, rdc_run hv, Result.andThen_ok]
        cases p with
        | none => simp
        | some p => simp [storeCells]
      · obtain ⟨b, off, rfl, hk⟩ := onP_ex (hin1 (by omega))
        obtain ⟨cs, e', hbk, hl, hk⟩ := hk
        have hlen : vs.length = m * size := hv.1
        have hmul : (n + m) * size = n * size + m * size := Nat.add_mul _ _ _
        refine .val (hpre (.slice (some ⟨b, off, none⟩) (n + m) c') { w with heap := upd w.heap b (.cells ⟨setAt cs (off + n * size) vs⟩ e' (0, 0)) } ?_) (hk _ ⟨rfl⟩) rfl rfl
        simp only [Builtin.append_, Sem.run_bind, run_und hd, run_und hd2, Result.andThen_ok, hsz, List.getElem?_toArray, List.getElem?_cons_zero, List.getElem?_cons_succ, Sem.run_pure, len_run, Bool.false_eq_true, if_false]
        rw [if_pos (by omega)]
        simp only [Bool.not_false, if_true, Sem.run_bind, rdc_run hv, Result.andThen_ok]
        have := stc_run (P := P) (off := off + n * size) vs 0 cs w hbk (by omega) h1v
        simp only [add_none, this, Result.andThen_ok, Nat.add_zero, Sem.run_pure]
    · obtain ⟨os, hos, hk⟩ := hout (by omega)
      have hcap : ¬ (Builtin.nextslicecap (n + m) c' * bytes > 2 ^ 48) := by
        have := growslice_fits (need := n + m) (old := c') (bytes := bytes) (by omega) hbd
        omega
      have hq : (Question.appendCap (n + m) c' e).forced = false := rfl
      have hcut : n + m ≤ (Question.appendCap (n + m) c' e).cut (w.tape w.drawn (.appendCap (n + m) c' e)) := by simp [Question.cut]
      generalize hnc : (Question.appendCap (n + m) c' e).cut (w.tape w.drawn (.appendCap (n + m) c' e)) = nc at hcut
      refine .val (hpre (.slice (some ⟨w.heap.size, 0, none⟩) (n + m) nc) { w with heap := w.heap.push (.cells ⟨os ++ vs ++ repV z (nc - (n + m))⟩ e), drawn := w.drawn + 1 } ?_) (hk nc _ _ hcut ⟨rfl, rfl⟩) rfl rfl
      have hti : ∀ w, (typeInfo e).run P w = .ok i w := fun w => by simp [typeInfo, hi]
      simp only [Builtin.append_, Sem.run_bind, run_und hd, run_und hd2, Result.andThen_ok, hsz, List.getElem?_toArray, List.getElem?_cons_zero, List.getElem?_cons_succ, Sem.run_pure, len_run, Bool.false_eq_true, if_false]
      rw [if_neg (by omega)]
      have hbig : ¬ ((((n + m : Nat) : Int) > IntKind.i64.max) ∧ (False ∨ i.bytes = 0)) := by simp [IntKind.max, IntKind.signed, IntKind.bits]; omega
      simp only [Sem.run_bind, hti, Result.andThen_ok]
      rw [if_neg (by simp [IntKind.max, IntKind.signed, IntKind.bits]; omega)]
      simp only [Sem.run_bind, hti, Result.andThen_ok, h2]
      rw [if_neg hcap]
      have hos' : ∀ w' : World, w'.heap = w.heap → (Builtin.firstCells size n (.slice p n c')).run P w' = .ok os.toArray w' := fun w' hw' => rdc_run (by rw [hw']; exact hos)
      have hvs' : ∀ w' : World, w'.heap = w.heap → (Builtin.firstCells size m (.slice q m d)).run P w' = .ok vs.toArray w' := fun w' hw' => rdc_run (by rw [hw']; exact hv)
      simp only [Sem.run_bind, run_choose, hq, hnc, Bool.false_eq_true, if_false, Result.andThen_ok, hti, h2, run_askRoom, Bool.not_false, if_true]
      rw [hos' { heap := w.heap, tape := w.tape, drawn := w.drawn + 1, os := w.os, output := w.output } rfl]
      simp only [Result.andThen_ok]
      rw [hvs' { heap := w.heap, tape := w.tape, drawn := w.drawn + 1, os := w.os, output := w.output } rfl]
      simp only [Result.andThen_ok, hzr, hz', newRow, Sem.run_bind, run_newObj, Sem.run_pure]
      rw [zeroCells_eq z _ hp]
      simp
  · exact hk.elim

theorem e_cpy {c : Call} {t u e : TypeId} {size : Nat} {d s : Operand} (ho : o.op = .call c) (hc : c.callee = .builtin .copy) (ha : c.args = #[d, s]) (ht : c.argTypes = #[t, u])
    (hd : P.underlying t = some (.slice e)) (hz : sizeD P e = some size) (hp : 0 < size) (hs : Sim f a) {w : World} (hw : w.heap = h)
    (hk : (EOp.cpy size d s).den P f h K) : E P o a w K := by
  subst hw
  simp only [EOp.den] at hk
  split at hk
  · rename_i p n c' q m c2 hd' hs'
    obtain ⟨vs, hv, h1, hk0, hk1⟩ := hk
    have hpre : ∀ v w', (Builtin.copy_ #[t, u] o.type #[.slice p n c', .slice q m c2]).run P w = .ok v w' → (execOp a.eval o).run P w = .ok (.value v) w' := by
      intro v w' hr
      simp [execOp, ho, resolve, hc, ha, ht, invoke, builtin, hs.ev hs', hs.ev hd', hr]
    have hmin : Nat.min m n = min m n := rfl
    by_cases h0 : min m n = 0
    · refine .val (hpre (.int .i64 0) w ?_) (hk0 h0) rfl rfl
      have hvs : vs = [] := List.length_eq_zero_iff.1 (by rw [hv.1, h0]; simp)
      subst hvs
      simp only [Builtin.copy_, Sem.run_bind, run_und hd, Result.andThen_ok, List.getElem?_toArray, List.getElem?_cons_zero, List.getElem?_cons_succ, len_run, run_size hz, hmin, rdc_run hv]
      cases p with
      | none => simp [goInt, h0]
      | some p => simp [storeCells, goInt, h0]
    · obtain ⟨b, off, rfl, hk⟩ := onP_ex (hk1 (by omega))
      obtain ⟨cs, e', hbk, hl, hk⟩ := hk
      refine .val (hpre (.int .i64 (min m n : Nat)) { w with heap := upd w.heap b (.cells ⟨setAt cs off vs⟩ e' (0, 0)) } ?_) (hk _ ⟨rfl⟩) rfl rfl
      have := stc_run (P := P) (off := off) vs 0 cs w hbk (by rw [hv.1]; omega) h1
      simp only [Builtin.copy_, Sem.run_bind, run_und hd, Result.andThen_ok, List.getElem?_toArray, List.getElem?_cons_zero, List.getElem?_cons_succ, len_run, run_size hz, hmin, rdc_run hv, this, Nat.add_zero, goInt, Sem.run_pure]
  · exact hk.elim
theorem e_clr {c : Call} {t e : TypeId} {size : Nat} {z : List Value} {zv : Value} {x : Operand} (ho : o.op = .call c) (hc : c.callee = .builtin .clear) (ha : c.args = #[x]) (ht : c.argTypes = #[t])
    (hd : P.underlying t = some (.slice e)) (hzv : zeroD P e = some zv) (hzl : valCells zv = z) (hzs : z.length = size) (hp : 0 < z.length) (hz1 : oneA z = true) (hs : Sim f a) {w : World} (hw : w.heap = h)
    (hk : (EOp.clr size z x).den P f h K) : E P o a w K := by
  subst hw
  simp only [EOp.den] at hk
  split at hk
  · rename_i p n c' hx
    have hpre : ∀ v w', (Builtin.clear_ #[t] o.type #[.slice p n c']).run P w = .ok v w' → (execOp a.eval o).run P w = .ok (.value v) w' := by
      intro v w' hr
      simp [execOp, ho, resolve, hc, ha, ht, invoke, builtin, hs.ev hx, hr]
    by_cases h0 : n = 0
    · refine .val (hpre (.tuple #[]) w ?_) (hk.1 h0) rfl rfl
      subst h0
      cases p with
      | none => simp [Builtin.clear_, run_und hd]
      | some p => simp [Builtin.clear_, run_und hd]
    · obtain ⟨b, off, rfl, hk3⟩ := onP_ex (hk.2 (by omega))
      obtain ⟨cs, e', hbk, hl, hk⟩ := hk3
      refine .val (hpre (.tuple #[]) { w with heap := upd w.heap b (.cells ⟨setAt cs off (repV z n)⟩ e' (0, 0)) } ?_) (hk _ ⟨rfl⟩) rfl rfl
      have hz' : zv.cells = z.toArray := by rw [cells_eq, hzl]
      have := stc_run (P := P) (off := off) (repV z n) 0 cs w hbk (by rw [repV_length, hzs]; omega) (by
        simp only [oneA, List.all_eq_true] at hz1 ⊢
        intro x hx
        simp only [repV, List.mem_flatten, List.mem_replicate] at hx
        obtain ⟨l, ⟨_, rfl⟩, hx⟩ := hx
        exact hz1 x hx)
      obtain ⟨n, rfl⟩ : ∃ k, n = k + 1 := ⟨n - 1, by omega⟩
      simp only [Builtin.clear_, Sem.run_bind, run_und hd, Result.andThen_ok, List.getElem?_toArray, List.getElem?_cons_zero, run_zero hzv, hz', zeroCells_eq z _ hp, this, Nat.add_zero, Sem.run_pure]
  · exact hk.elim

theorem posL_pos {z : List Value} (h : posL z = true) : 0 < z.length := by
  cases z with
  | nil => cases h
  | cons => simp
theorem callFunc_enter {g : FuncId} (hf : fnOk P g = true) (args : Array Value) (w : World) : (callFunc g args).run P w = .ok (.enter g args) w := by
  unfold fnOk at hf
  split at hf
  · rename_i fn hfn
    simp only [Bool.and_eq_true, bne_iff_ne, ne_eq, Option.isSome_iff_ne_none] at hf
    have h1 : (fn.name == "runtime.NumGoroutine") = false := by simpa using hf.2
    have h2 : fn.body.isNone = false := by cases hb : fn.body with | none => exact absurd hb hf.1 | some c => rfl
    simp only [callFunc, Sem.run_bind, run_program, Result.andThen_ok, hfn, h1, h2, Bool.false_eq_true, if_false, Sem.run_pure]
  · cases hf
theorem e_call {c : Call} {g : FuncId} {args : List Operand} {r : RT} (ho : o.op = .call c) (hc : c.callee = .value (.func g) ∨ c.callee = .value (.const (.func (.func g) #[] #[]))) (ha : c.args.toList = args) (hf : fnOk P g = true) (hs : Sim f a) {w : World} (hw : w.heap = h)
    (hk : (EOp.call g args r).den P f h K) : E P o a w K := by
  subst hw
  simp only [EOp.den] at hk
  have h1 := ovs_run hs _ _ hk
  refine .inr (.inr ⟨.enter g (c.args.map a.eval), ?_, ?_⟩)
  · rcases hc with hc | hc
    · simp [execOp, ho, resolve, hc, Deferred.ofValue, Act.eval, invoke, callFunc_enter hf]
    · simp [execOp, ho, resolve, hc, Deferred.ofValue, Act.eval, invoke, callFunc_enter hf]
  · have e : c.args.map a.eval = ⟨args.map a.eval⟩ := by subst ha; apply Array.ext'; simp
    show Calls P g (c.args.map a.eval) w _
    rw [e]
    refine Calls.mono (h1 w rfl) ?_
    rintro _ w' ⟨v, rfl, hr, h4, h5⟩
    obtain ⟨u, rfl, hk⟩ := RT.ex_some hr
    exact ⟨_, rfl, ⟨_, agrees_v _, hk⟩, h4, h5⟩
theorem e_cyl {c : Call} {x : Operand} {args : List Operand} {r : RT} (ho : o.op = .call c) (hc : c.callee = .value x) (ha : c.args.toList = args) (hs : Sim f a) {w : World} (hw : w.heap = h)
    (hk : (EOp.cyl x args r).den P f h K) : E P o a w K := by
  subst hw
  simp only [EOp.den] at hk
  split at hk
  · rename_i l hx
    have h1 := ovs_run hs _ _ hk
    obtain ⟨nx, h2, h3⟩ := h1 w rfl
    refine .inr (.inr ⟨nx, ?_, ?_⟩)
    · have e : c.args.map a.eval = ⟨args.map a.eval⟩ := by subst ha; apply Array.ext'; simp
      rw [← e] at h2
      simp [execOp, ho, resolve, hc, Deferred.ofValue, hs.ev hx, invoke]
      exact h2
    · refine h3.mono ?_
      rintro _ w' ⟨v, rfl, hr, h4, h5⟩
      obtain ⟨u, rfl, hk⟩ := RT.ex_some hr
      exact ⟨_, rfl, ⟨_, agrees_v _, hk⟩, h4, h5⟩
  · exact hk.elim
theorem e_cav {c : Call} {x : Operand} {args : List Operand} {r : RT} (ho : o.op = .call c) (hc : c.callee = .value x) (ha : c.args.toList = args) (hs : Sim f a) {w : World} (hw : w.heap = h)
    (hk : (EOp.cav x args r).den P f h K) : E P o a w K := by
  subst hw
  simp only [EOp.den] at hk
  split at hk
  · rename_i g fi ca hx
    obtain ⟨hf, hk⟩ := hk
    have h1 := ovs_run hs _ _ hk
    refine .inr (.inr ⟨.enter g (fi.toArray ++ c.args.map a.eval ++ ca.toArray), ?_, ?_⟩)
    · simp [execOp, ho, resolve, hc, Deferred.ofValue, hs.ev hx, invoke, callFunc_enter hf]
    · have e : fi.toArray ++ c.args.map a.eval ++ ca.toArray = ⟨fi ++ args.map a.eval ++ ca⟩ := by subst ha; apply Array.ext'; simp
      show Calls P g (fi.toArray ++ c.args.map a.eval ++ ca.toArray) w _
      rw [e]
      refine Calls.mono (h1 w rfl) ?_
      rintro _ w' ⟨v, rfl, hr, h4, h5⟩
      obtain ⟨u, rfl, hk⟩ := RT.ex_some hr
      exact ⟨_, rfl, ⟨_, agrees_v _, hk⟩, h4, h5⟩
  · exact hk.elim

/-- **What is checked and reckoned is what the operation does.** -/
theorem E.sound {eo : EOp} (hc : chkE P o.op eo = true) (hs : Sim f a) {w : World} (hw : w.heap = h) (hk : eo.den P f h K) : E P o a w K := by
  generalize hop : o.op = op at hc
  unfold chkE at hc
  split at hc
  all_goals try simp only [Bool.and_eq_true, beq_iff_eq, decide_eq_true_eq] at hc
  · obtain ⟨rfl, h2⟩ := hc
    split at h2
    · rename_i v hz; exact e_alc hop hz (veqL_eq h2) hw hk
    · cases h2
  · obtain ⟨rfl, h2⟩ := hc; obtain rfl := oeq_eq h2; exact e_box hop hs hw hk
  · obtain ⟨⟨⟨⟨⟨⟨rfl, h2⟩, h3⟩, h4⟩, h5⟩, h6⟩, h7⟩ := hc
    unfold desc at h2
    split at h2
    · rename_i e' hd; simp at h2; subst h2
      split at h4
      · rename_i zv hz; simp only [Bool.and_eq_true, beq_iff_eq] at h4
        have hzl := veqL_eq h4.1
        exact e_bsl hop hd h3 hz hzl (by rw [← hzl]; exact h4.2) (posL_pos h5) h6 h7 hs hw hk
      · cases h4
    · cases h2
  · obtain ⟨⟨⟨⟨⟨h2, h3⟩, h5⟩, h6⟩, h7⟩, h8⟩ := hc
    obtain rfl := oeq_eq h6; obtain rfl := oeq_eq h7
    unfold desc at h2
    split at h2
    · rename_i e' hd; simp at h2; subst h2
      split at h3
      · rename_i i hi; simp only [Bool.and_eq_true, beq_iff_eq] at h3; obtain ⟨⟨g1, g2⟩, g3⟩ := h3
        split at g3
        · rename_i zv hz; simp only [Bool.and_eq_true, beq_iff_eq] at g3
          have hzl := veqL_eq g3.1
          exact e_mks hop hd hi g1 g2 hz hzl (by rw [← hzl]; exact g3.2) (posL_pos h5) h8 hs hw hk
        · cases g3
      · cases h3
    · cases h2
  · obtain ⟨⟨h1, h2⟩, h3⟩ := hc; obtain rfl := oeq_eq h1; obtain rfl := oeq_eq h2; exact e_sto hop h3 hs hw hk
  · obtain ⟨⟨⟨⟨h1, h2⟩, h3⟩, h5⟩, h8⟩ := hc
    split at h1
    · rename_i hcal; split at h2
      · rename_i s' x' t u ha ht; simp only [Bool.and_eq_true] at h2; obtain ⟨⟨⟨k1, k2⟩, k3⟩, k4⟩ := h2
        obtain rfl := oeq_eq k1; obtain rfl := oeq_eq k2
        unfold desc at k3 k4
        split at k3
        · rename_i e' hd; simp at k3; subst k3
          split at k4
          · rename_i e2 hd2
            split at h3
            · rename_i i hi; simp only [Bool.and_eq_true, beq_iff_eq] at h3; obtain ⟨⟨g1, g2⟩, g3⟩ := h3
              split at g3
              · rename_i zv hz; simp only [Bool.and_eq_true, beq_iff_eq] at g3
                have hzl := veqL_eq g3.1
                exact e_app hop hcal ha ht hd hd2 hi g1 g2 hz hzl (by rw [← hzl]; exact g3.2) (posL_pos h5) h8 hs hw hk
              · cases g3
            · cases h3
          · cases k4
        · cases k3
      · cases h2
    · cases h1
  · obtain ⟨⟨h1, h2⟩, h8⟩ := hc
    split at h1
    · rename_i hcal; split at h2
      · rename_i d' s' t u ha ht; simp only [Bool.and_eq_true] at h2; obtain ⟨⟨k1, k2⟩, k3⟩ := h2
        obtain rfl := oeq_eq k1; obtain rfl := oeq_eq k2
        unfold desc at k3
        split at k3
        · rename_i e' hd; simp at k3; exact e_cpy hop hcal ha ht hd k3 h8 hs hw hk
        · cases k3
      · cases h2
    · cases h1
  · obtain ⟨⟨⟨h1, h2⟩, h5⟩, h8⟩ := hc
    split at h1
    · rename_i hcal; split at h2
      · rename_i x' t ha ht; simp only [Bool.and_eq_true] at h2; obtain ⟨k1, k3⟩ := h2
        obtain rfl := oeq_eq k1
        unfold desc at k3
        split at k3
        · rename_i e' hd
          split at k3
          · rename_i zv hz; simp only [Bool.and_eq_true, beq_iff_eq] at k3
            have hzl := veqL_eq k3.1
            exact e_clr hop hcal ha ht hd hz hzl (by rw [← hzl]; exact k3.2) (posL_pos h5) h8 hs hw hk
          · cases k3
        · cases k3
      · cases h2
    · cases h1
  · obtain ⟨⟨h1, h2⟩, h3⟩ := hc
    have ha := oeqL_eq h2
    split at h1
    · rename_i g' hcal; simp at h1; subst h1; exact e_call hop (.inl hcal) ha h3 hs hw hk
    · rename_i g' hcal; simp at h1; subst h1; exact e_call hop (.inr hcal) ha h3 hs hw hk
    · cases h1
  · obtain ⟨h1, h2⟩ := hc
    have ha := oeqL_eq h2
    split at h1
    · rename_i x' hcal; obtain rfl := oeq_eq h1; exact e_cyl hop hcal ha hs hw hk
    · cases h1
  · obtain ⟨h1, h2⟩ := hc
    have ha := oeqL_eq h2
    split at h1
    · rename_i x' hcal; obtain rfl := oeq_eq h1; exact e_cav hop hcal ha hs hw hk
    · cases h1
  · cases hc
end Go.Fw

/- Steps of a region, in the order of the text or in whatever order the tape picks. -/
set_option linter.unusedVariables false
set_option linter.unusedSimpArgs false
namespace Go.Fw
variable {P : Program}


inductive IOp where
  | v (o : VOp)
  | e (o : EOp)
structure St where
  d : Option Nat
  g : Option (Nat × Bool)
  op : IOp
def IOp.den (P : Program) : IOp → Fr → H → (Slot → H → Prop) → Prop
  | .v o, f, h, K => o.val f h fun s => K s h
  | .e o, f, h, K => o.den P f h K
/-- A bool in a slot: known from here on. -/
def gd (f : Fr) (t : Nat) (C : Fr → Bool → Prop) : Prop :=
  match f.get t with
  | .lit b => C f b
  | .prp p _ => (p → C (f.set t (.lit true)) true) ∧ (¬ p → C (f.set t (.lit false)) false)
  | .v (.bool b) => (b = true → C (f.set t (.lit true)) true) ∧ (b = false → C (f.set t (.lit false)) false)
  | _ => False
/-- The mark of an operation that was passed over. -/
def isUn : Slot → Bool
  | .v (.tuple ⟨[]⟩) => true
  | _ => false
theorem isUn_eq {s : Slot} (h : isUn s = true) : s.val = some undef := by
  unfold isUn at h; split at h
  · rfl
  · cases h
def St.den (P : Program) (s : St) (f : Fr) (h : H) (K : Fr → H → Prop) : Prop :=
  match s.g with
  | none => s.op.den P f h fun x h' => K (f.put s.d x) h'
  | some (t, want) => match isUn (f.get t) with
    | true => K (f.put s.d (.v (.tuple ⟨[]⟩))) h
    | false => gd f t fun f b => match b, want with
      | true, true | false, false => s.op.den P f h fun x h' => K (f.put s.d x) h'
      | _, _ => K (f.put s.d (.v (.tuple ⟨[]⟩))) h

def optq : Option Nat → Option Nat → Bool
  | none, none => true
  | some a, some b => a == b
  | _, _ => false
theorem optq_eq {a b : Option Nat} (h : optq a b = true) : a = b := by
  cases a <;> cases b <;> first | rfl | cases h | (simp [optq] at h; rw [h])
def chkI (P : Program) (o : Op) : IOp → Bool
  | .v vo => chkV P o vo
  | .e eo => chkE P o eo
def chkSt (P : Program) (ops : Array Oper) (o : Oper) (s : St) : Bool :=
  optq o.dst s.d && chkI P o.op s.op && (match o.guard, s.g with
    | none, none => true
    | some (j, want), some (t, want') => want == want' && optq ((ops[j]?).bind (·.dst)) (some t)
    | _, _ => false)

def dstOf (ops : Array Oper) (i : Nat) : Option Nat := (ops[i]?).bind (·.dst)

/-- One operation, carried out or passed over. -/
def OpStep (P : Program) (ops : Array Oper) (i : Nat) (K : Act → World → Prop) (a : Act) (w : World) : Prop :=
  ∃ o, ops[i]? = some o ∧ (∀ c, o.op ≠ .defer c) ∧ (∀ cs b, o.op ≠ .select cs b) ∧
    ((Region.wanted o (yielded ops a.tmps) = true ∧
      ((∃ v w', (execOp a.eval o).run P w = .ok (.value v) w' ∧ K (a.put o.dst v) w') ∨
       (∃ w', (execOp a.eval o).run P w = .ok .skip w' ∧ K (a.put o.dst undef) w') ∨
       (∃ nx, (execOp a.eval o).run P w = .ok nx w ∧ Goes P nx w fun e w' => ∃ v, e = .returned v ∧ K (a.put o.dst v) w'))) ∨
     (Region.wanted o (yielded ops a.tmps) = false ∧ K (a.put o.dst undef) w))
theorem OpStep.mono {ops : Array Oper} {i : Nat} {K K' : Act → World → Prop} {a : Act} {w : World} (h : OpStep P ops i K a w) (hk : ∀ a w, K a w → K' a w) : OpStep P ops i K' a w := by
  obtain ⟨o, h1, h2, h3, h⟩ := h
  refine ⟨o, h1, h2, h3, ?_⟩
  rcases h with ⟨hw, h⟩ | ⟨hw, h⟩
  · refine .inl ⟨hw, ?_⟩
    rcases h with ⟨v, w', hr, h⟩ | ⟨w', hr, h⟩ | ⟨nx, hr, h⟩
    · exact .inl ⟨v, w', hr, hk _ _ h⟩
    · exact .inr (.inl ⟨w', hr, hk _ _ h⟩)
    · exact .inr (.inr ⟨nx, hr, h.mono fun e w' ⟨v, he, h⟩ => ⟨v, he, hk _ _ h⟩⟩)
  · exact .inr ⟨hw, hk _ _ h⟩
theorem OpStep.wp {ops : Array Oper} {i : Nat} {K : Act → World → Prop} {a : Act} {w : World} {r : Option Nat} {Q : Exit → Act → World → Prop} (h : OpStep P ops i K a w) : wpOpIn (FW r) 0 P ops Q i K a w := by
  obtain ⟨o, h1, h2, h3, h⟩ := h
  unfold wpOpIn
  simp only [h1]
  have hsem : o.semAt r a.eval = execOp a.eval o := by
    cases r with
    | none => rfl
    | some l => exact Oper.semAt_some l _ _ h2
  rcases h with ⟨hw, h⟩ | ⟨hw, h⟩
  · rw [if_pos hw]
    refine ⟨fun _ _ => trivial, ?_⟩
    simp only [FW, hsem]
    rcases h with ⟨v, w', hr, h⟩ | ⟨w', hr, h⟩ | ⟨nx, hr, h⟩
    · rw [hr]; exact h
    · rw [hr]; exact h
    · rw [hr]
      cases nx with
      | enter g args =>
        refine ⟨(fun h => by cases h), callsIn_FW.2 (Calls.mono h ?_)⟩
        rintro e w' ⟨v, rfl, h⟩
        exact h
      | round l f tmps asgn body =>
        refine ⟨(fun h => by cases h), RoundIn.mono (R := fun e w' => ∃ v, e = .returned v ∧ K (a.put o.dst v) w') h ?_⟩
        rintro e w' ⟨v, rfl, h⟩
        exact h
      | _ => exact h.elim
  · rw [if_neg (by simp [hw])]
    exact ⟨fun _ _ => trivial, h⟩

theorem gd_sound {f : Fr} {a : Act} (hs : Sim f a) {t : Nat} {C : Fr → Bool → Prop} (h : gd f t C) : ∃ f' b, Sim f' a ∧ C f' b ∧ a.tmps.getD t undef = .bool b := by
  unfold gd at h
  split at h
  · rename_i b hb; exact ⟨f, b, hs, h, hs.vals t _ (by rw [hb]; rfl)⟩
  · rename_i p d hb
    have hv := hs.vals t _ (by rw [hb]; rfl)
    by_cases hp : p
    · exact ⟨_, true, hs.respell t (by intro y hy; rw [hb]; simp [Slot.val] at hy ⊢; rw [← hy]; simp [hp]), h.1 hp, by rw [hv]; simp [hp]⟩
    · exact ⟨_, false, hs.respell t (by intro y hy; rw [hb]; simp [Slot.val] at hy ⊢; rw [← hy]; simp [hp]), h.2 hp, by rw [hv]; simp [hp]⟩
  · rename_i b hb
    have hv := hs.vals t _ (by rw [hb]; rfl)
    cases b
    · exact ⟨_, false, hs.respell t (by intro y hy; rw [hb]; simp [Slot.val] at hy ⊢; exact hy), h.2 rfl, hv⟩
    · exact ⟨_, true, hs.respell t (by intro y hy; rw [hb]; simp [Slot.val] at hy ⊢; exact hy), h.1 rfl, hv⟩
  · exact h.elim
theorem chkV_kind {o : Op} {vo : VOp} (h : chkV P o vo = true) : (∀ c, o ≠ .defer c) ∧ (∀ cs b, o ≠ .select cs b) := by
  constructor
  · rintro c rfl; unfold chkV at h; split at h <;> first | cases h | contradiction
  · rintro cs b rfl; unfold chkV at h; split at h <;> first | cases h | contradiction
theorem chkE_kind {o : Op} {eo : EOp} (h : chkE P o eo = true) : (∀ c, o ≠ .defer c) ∧ (∀ cs b, o ≠ .select cs b) := by
  constructor
  · rintro c rfl; unfold chkE at h; split at h <;> first | cases h | contradiction
  · rintro cs b rfl; unfold chkE at h; split at h <;> first | cases h | contradiction
theorem chkI_kind {o : Op} {io : IOp} (h : chkI P o io = true) : (∀ c, o ≠ .defer c) ∧ (∀ cs b, o ≠ .select cs b) := by
  cases io with
  | v vo => exact chkV_kind h
  | e eo => exact chkE_kind h

/-- Slots beside the ones that are written are as they were. -/
def Agr (W : List Nat) (t u : Act) : Prop := (t.tmps.size = u.tmps.size ∧ u.defers = t.defers) ∧ ∀ i, i ∉ W → u.tmps.getD i undef = t.tmps.getD i undef
theorem Agr.refl (W : List Nat) (t : Act) : Agr W t t := ⟨⟨rfl, rfl⟩, fun _ _ => rfl⟩
theorem Agr.trans {W V : List Nat} {t u v : Act} (h1 : Agr W t u) (h2 : Agr V u v) : Agr (W ++ V) t v :=
  ⟨⟨h1.1.1.trans h2.1.1, h2.1.2.trans h1.1.2⟩, fun i hi => (h2.2 i (fun h => hi (List.mem_append_right _ h))).trans (h1.2 i (fun h => hi (List.mem_append_left _ h)))⟩
theorem Agr.mono {W V : List Nat} {t u : Act} (h : Agr W t u) (hs : ∀ i, i ∈ W → i ∈ V) : Agr V t u := ⟨h.1, fun i hi => h.2 i (fun x => hi (hs i x))⟩
theorem Agr.put {a : Act} {d : Option Nat} {v : Value} {W : List Nat} (hd : ∀ x, d = some x → x ∈ W) : Agr W a (a.put d v) := by
  cases d with
  | none => exact Agr.refl _ _
  | some d =>
    refine ⟨⟨by simp [Act.put], rfl⟩, fun i hi => ?_⟩
    simp only [Act.put]
    rw [getD_set, if_neg (fun x => hi (by rw [x.1]; exact hd d rfl))]

/-- A step is sound: whatever holds behind what it is reckoned to. -/
theorem St.sound {ops : Array Oper} {i : Nat} {o : Oper} {s : St} (hi : ops[i]? = some o) (hc : chkSt P ops o s = true) {f : Fr} {a : Act} (hs : Sim f a) {w : World} {K : Fr → H → Prop} (hd : s.den P f w.heap K)
    {Kw : Act → World → Prop} (hK : ∀ f' a' w', Sim f' a' → K f' w'.heap → w'.os = w.os → w'.output = w.output → Agr s.d.toList a a' → Kw a' w') : OpStep P ops i Kw a w := by
  simp only [chkSt, Bool.and_eq_true] at hc
  obtain ⟨⟨hdst, hop⟩, hg⟩ := hc
  have hdst := optq_eq hdst
  have hput : ∀ v, Agr s.d.toList a (a.put o.dst v) := fun v => Agr.put (by rw [hdst]; intro x hx; rw [hx]; simp)
  obtain ⟨k1, k2⟩ := chkI_kind hop
  have carry : ∀ f0 : Fr, Sim f0 a → s.op.den P f0 w.heap (fun x h' => K (f0.put s.d x) h') →
      ((∃ v w', (execOp a.eval o).run P w = .ok (.value v) w' ∧ Kw (a.put o.dst v) w') ∨
       (∃ w', (execOp a.eval o).run P w = .ok .skip w' ∧ Kw (a.put o.dst undef) w') ∨
       (∃ nx, (execOp a.eval o).run P w = .ok nx w ∧ Goes P nx w fun e w' => ∃ v, e = .returned v ∧ Kw (a.put o.dst v) w')) := by
    intro f0 hs0 hden
    cases hso : s.op with
    | v vo =>
      rw [hso] at hden hop
      obtain ⟨v, x, h1, h2, h3⟩ := V.sound (K := fun x => K (f0.put s.d x) w.heap) hop hs0 hden
      exact .inl ⟨v, w, h3 w (Ext.refl _), hK _ _ _ (by rw [hdst]; exact hs0.put _ h1) h2 rfl rfl (hput v)⟩
    | e eo =>
      rw [hso] at hden hop
      rcases E.sound (K := fun x h' => K (f0.put s.d x) h') hop hs0 rfl hden with ⟨v, x, w', h1, h2, h3, h4, h5⟩ | ⟨w', h1, h3, h4, h5⟩ | ⟨nx, h1, h2⟩
      · exact .inl ⟨v, w', h1, hK _ _ _ (by rw [hdst]; exact hs0.put _ h2) h3 h4 h5 (hput v)⟩
      · exact .inr (.inl ⟨w', h1, hK _ _ _ (by rw [hdst]; exact hs0.put _ (agrees_non _)) h3 h4 h5 (hput _)⟩)
      · refine .inr (.inr ⟨nx, h1, ?_⟩)
        refine h2.mono ?_
        rintro e w' ⟨v, rfl, ⟨x, hx, hk⟩, h4, h5⟩
        exact ⟨v, rfl, hK _ _ _ (by rw [hdst]; exact hs0.put _ hx) hk h4 h5 (hput v)⟩
  refine ⟨o, hi, k1, k2, ?_⟩
  unfold St.den at hd
  cases hsg : s.g with
  | none =>
    rw [hsg] at hd hg
    cases hog : o.guard with
    | some g => rw [hog] at hg; cases hg
    | none => exact .inl ⟨by simp [Region.wanted, hog], carry f hs hd⟩
  | some g =>
    obtain ⟨t, want⟩ := g
    rw [hsg] at hd hg
    cases hog : o.guard with
    | none => rw [hog] at hg; cases hg
    | some g' =>
      obtain ⟨j, want'⟩ := g'
      rw [hog] at hg
      simp only [Bool.and_eq_true, beq_iff_eq] at hg
      obtain ⟨rfl, hj⟩ := hg
      have hj := optq_eq hj
      simp only at hd
      split at hd
      · rename_i hu
        have hv := hs.vals t _ (isUn_eq hu)
        have hy : yielded ops a.tmps j = none := by
          unfold yielded
          rw [hj]
          rw [Array.getD_eq_getD_getElem?] at hv
          cases h : a.tmps[t]? with
          | none => simp [h]
          | some x => rw [h] at hv; simp [undef] at hv; subst hv; simp [h]
        exact .inr ⟨by simp [Region.wanted, hog, hy], hK _ _ _ (by rw [hdst]; exact hs.put _ (agrees_v _)) hd rfl rfl (hput _)⟩
      obtain ⟨f', b, hs', hC, hv⟩ := gd_sound hs hd
      have hy : yielded ops a.tmps j = some b := by
        unfold yielded
        rw [hj]
        have : a.tmps[t]? = some (.bool b) := by
          rw [Array.getD_eq_getD_getElem?] at hv
          cases h : a.tmps[t]? with
          | none => rw [h] at hv; simp [undef] at hv
          | some x => rw [h] at hv; simp at hv; rw [hv]
        simp [this]
      have hwant : Region.wanted o (yielded ops a.tmps) = (b == want') := by
        simp only [Region.wanted, hog, hy]
        cases b <;> cases want' <;> rfl
      cases b <;> cases want' <;> simp only at hC
      · exact .inl ⟨by rw [hwant]; rfl, carry f' hs' hC⟩
      · exact .inr ⟨by rw [hwant]; rfl, hK _ _ _ (by rw [hdst]; exact hs'.put _ (agrees_v _)) hC rfl rfl (hput _)⟩
      · exact .inr ⟨by rw [hwant]; rfl, hK _ _ _ (by rw [hdst]; exact hs'.put _ (agrees_v _)) hC rfl rfl (hput _)⟩
      · exact .inl ⟨by rw [hwant]; rfl, carry f' hs' hC⟩

/-! ### In the order of the text -/
def dens (P : Program) : List St → Fr → H → (Fr → H → Prop) → Prop
  | [], f, h, K => K f h
  | s :: ss, f, h, K => s.den P f h fun f' h' => dens P ss f' h' K
def dsts : List St → List Nat
  | [] => []
  | s :: ss => s.d.toList ++ dsts ss
def chkSts (P : Program) (ops : Array Oper) : List Oper → List St → Bool
  | [], [] => true
  | o :: os, s :: ss => chkSt P ops o s && chkSts P ops os ss
  | _, _ => false
theorem dens_sound {ops : Array Oper} {r : Option Nat} {Q : Exit → Act → World → Prop} : ∀ (ss : List St) (os : List Oper) (i : Nat), (∀ j, os[j]? = ops[i + j]?) → chkSts P ops os ss = true → ∀ {f : Fr} {a : Act}, Sim f a → ∀ {w : World} {K : Fr → H → Prop}, dens P ss f w.heap K →
    (∀ f' a' w', Sim f' a' → K f' w'.heap → w'.os = w.os → w'.output = w.output → Agr (dsts ss) a a' → Q .normal a' w') → wpOpsIn (FW r) 0 P ops Q (List.range' i ss.length) a w := by
  intro ss
  induction ss with
  | nil =>
    intro os i _ hc f a hs w K hd hQ
    exact hQ f a w hs hd rfl rfl (Agr.refl _ _)
  | cons s ss ih =>
    intro os i hj hc f a hs w K hd hQ
    cases os with
    | nil => cases hc
    | cons o os =>
      simp only [chkSts, Bool.and_eq_true] at hc
      rw [List.length_cons, List.range'_succ, wpOpsIn_cons]
      have h0 : ops[i]? = some o := by simpa using (hj 0).symm
      refine OpStep.wp (St.sound h0 hc.1 hs hd ?_)
      intro f' a' w' hs' hk h1 h2 hag
      refine ih os (i + 1) (fun j => by have := hj (j + 1); simpa [Nat.add_assoc, Nat.add_comm 1 j] using this) hc.2 hs' hk ?_
      intro f2 a2 w2 hs2 hk2 h3 h4 hag2
      exact hQ f2 a2 w2 hs2 hk2 (h3.trans h1) (h4.trans h2) (hag.trans hag2)
theorem chkSts_length {ops : Array Oper} : ∀ {os : List Oper} {ss : List St}, chkSts P ops os ss = true → os.length = ss.length
  | [], [], _ => rfl
  | o :: os, s :: ss, h => by simp only [chkSts, Bool.and_eq_true] at h; simp [chkSts_length h.2]
  | [], _ :: _, h => by cases h
  | _ :: _, [], h => by cases h
end Go.Fw

/- Regions whose order the tape picks. -/
set_option linter.unusedVariables false
set_option linter.unusedSimpArgs false
namespace Go.Fw
variable {P : Program}

/-- None of the cold operations has come up. -/
def live (cold : List Nat) (L : Array Bool) : Bool := cold.all fun e => !L.getD e false
theorem live_set {cold : List Nat} {L : Array Bool} {i : Nat} (h : live cold (L.setIfInBounds i true) = true) : live cold L = true := by
  simp only [live, List.all_eq_true, Bool.not_eq_true'] at *
  intro e he
  have := h e he
  cases hL : L.getD e false with
  | false => rfl
  | true => rw [getD_set_true hL] at this; cases this
theorem live_set' {cold : List Nat} {L : Array Bool} {i : Nat} (h : live cold L = true) (hi : i ∉ cold) : live cold (L.setIfInBounds i true) = true := by
  simp only [live, List.all_eq_true, Bool.not_eq_true'] at *
  intro e he
  rw [getD_set_ne false (fun x => hi (by rw [x]; exact he))]
  exact h e he
/-- Whatever order is picked; as long as no cold operation has come up S holds. -/
def WAny (P : Program) (ops : Array Oper) (Q : Act → World → Prop) (cold : List Nat) (S : World → Prop) : Nat → Array Bool → Act → World → Prop
  | 0, L, a, w => Region.ready .any ops L = [] ∧ Q a w
  | n + 1, L, a, w => (Region.ready .any ops L = [] → Q a w) ∧
    ∀ i ∈ Region.ready .any ops L, OpStep P ops i (fun a' w' => (live cold (L.setIfInBounds i true) = true → S w') ∧ WAny P ops Q cold S n (L.setIfInBounds i true) a' w') a w
theorem WAny.wp {ops : Array Oper} {Q : Act → World → Prop} {cold : List Nat} {S : World → Prop} {r : Option Nat} {Q' : Exit → Act → World → Prop} (hq : ∀ a w, Q a w → Q' .normal a w) :
    ∀ (n : Nat) (L : Array Bool) (a : Act) (w : World), WAny P ops Q cold S n L a w → wpAnyIn (FW r) 0 P .any ops Q' n L a w
  | 0, _, _, _, h => ⟨h.1, hq _ _ h.2⟩
  | n + 1, L, a, w, h => ⟨fun e => hq _ _ (h.1 e), fun i hi => OpStep.wp ((h.2 i hi).mono fun a' w' x => WAny.wp hq n _ a' w' x.2)⟩

/-- In every world that meets S the operation leaves v in its slot and does nothing else. -/
def YldS (P : Program) (ops : Array Oper) (S : World → Prop) (o : Oper) (v : Value) (a : Act) : Prop :=
  (Region.wanted o (yielded ops a.tmps) = true ∧ ∀ w, S w → (execOp a.eval o).run P w = .ok (.value v) w) ∨
  (Region.wanted o (yielded ops a.tmps) = false ∧ v = undef)
theorem YldS.step {ops : Array Oper} {S : World → Prop} {i : Nat} {o : Oper} {v : Value} {a : Act} {w : World} {K : Act → World → Prop} (hi : ops[i]? = some o) (h1 : ∀ c, o.op ≠ .defer c) (h2 : ∀ cs b, o.op ≠ .select cs b)
    (hy : YldS P ops S o v a) (hS : S w) (h : K (a.put o.dst v) w) : OpStep P ops i K a w := by
  refine ⟨o, hi, h1, h2, ?_⟩
  rcases hy with ⟨hw, hv⟩ | ⟨hw, rfl⟩
  · exact .inl ⟨hw, .inl ⟨v, w, hv w hS, h⟩⟩
  · exact .inr ⟨hw, h⟩
theorem YldS.put {ops : Array Oper} {S : World → Prop} {oi oj : Oper} {v : Value} {a : Act} (h2 : ∀ cs b, oi.op ≠ .select cs b) (hap : ∀ d, oj.dst = some d → d ∉ oi.looksAt ops) (hy : YldS P ops S oi v a) (u : Value) :
    YldS P ops S oi v (a.put oj.dst u) := by
  unfold YldS at *
  rw [execOp_put oi h2 a oj.dst u hap, wanted_put oi a oj.dst u hap]
  exact hy
theorem OpStep.unput {ops : Array Oper} {S : World → Prop} {j : Nat} {oi oj : Oper} {v : Value} (hj : ops[j]? = some oj) (hap : oi.apart ops oj = true) (hsi : ∀ cs b, oi.op ≠ .select cs b)
    {K : Act → World → Prop} {a : Act} {w : World} (hy : YldS P ops S oi v a) (h : OpStep P ops j K (a.put oi.dst v) w) :
    OpStep P ops j (fun a' w' => YldS P ops S oi v a' ∧ K (a'.put oi.dst v) w') a w := by
  obtain ⟨h1, h2, h3⟩ := Oper.apart_spec hap
  obtain ⟨o, ho, k1, k2, h⟩ := h
  obtain rfl : oj = o := by rw [hj] at ho; simpa using ho
  have keep := fun u => YldS.put (oj := oj) hsi h3 hy u
  refine ⟨oj, hj, k1, k2, ?_⟩
  rw [wanted_put oj a oi.dst v h1, execOp_put oj k2 a oi.dst v h1] at h
  rcases h with ⟨hw, h⟩ | ⟨hw, h⟩
  · refine .inl ⟨hw, ?_⟩
    rcases h with ⟨u, w', hr, h⟩ | ⟨w', hr, h⟩ | ⟨nx, hr, h⟩
    · exact .inl ⟨u, w', hr, keep u, by rw [← Act.put_comm a v u h2]; exact h⟩
    · exact .inr (.inl ⟨w', hr, keep _, by rw [← Act.put_comm a v undef h2]; exact h⟩)
    · exact .inr (.inr ⟨nx, hr, Goes.mono h fun e w' ⟨u, he, h⟩ => ⟨u, he, keep u, by rw [← Act.put_comm a v u h2]; exact h⟩⟩)
  · exact .inr ⟨hw, keep _, by rw [← Act.put_comm a v undef h2]; exact h⟩

/-- j waits for i: by a chain of those that are still to come. -/
inductive Chn (ops : Array Oper) (L : Array Bool) (i : Nat) : Nat → Prop
  | base {j : Nat} {oj : Oper} {e : Edge} : ops[j]? = some oj → e ∈ oj.after → Region.binds .any e = true → e.on = i → Chn ops L i j
  | step {j : Nat} {oj : Oper} {e : Edge} : ops[j]? = some oj → e ∈ oj.after → Region.binds .any e = true → L.getD e.on true = false → Chn ops L i e.on → Chn ops L i j
theorem Chn.wait {ops : Array Oper} {L : Array Bool} {i j : Nat} (hi : L.getD i true = false) (h : Chn ops L i j) (hr : j ∈ Region.ready .any ops L) : False := by
  obtain ⟨hun, oj, hoj, hall⟩ := mem_ready.1 hr
  cases h with
  | base h1 h2 h3 h4 =>
    cases h1.symm.trans hoj
    have := hall _ h2 h3
    rw [h4] at this
    rcases Nat.lt_or_ge i L.size with h' | h'
    · simp [h'] at hi this; rw [hi] at this; cases this
    · simp [Array.getElem?_eq_none h'] at this
  | step h1 h2 h3 h4 h5 =>
    cases h1.symm.trans hoj
    rename_i e
    have := hall _ h2 h3
    rcases Nat.lt_or_ge e.on L.size with h' | h'
    · simp [h'] at h4 this; rw [h4] at this; cases this
    · simp [Array.getElem?_eq_none h'] at this
theorem Chn.set {ops : Array Oper} {L : Array Bool} {i j k : Nat} (hi : L.getD i true = false) (h : Chn ops L i k) (hr : j ∈ Region.ready .any ops L) : Chn ops (L.setIfInBounds j true) i k := by
  induction h with
  | base h1 h2 h3 h4 => exact .base h1 h2 h3 h4
  | step h1 h2 h3 h4 h5 ih =>
    rename_i e
    have hne : j ≠ e.on := fun e' => h5.wait hi (e' ▸ hr)
    exact .step h1 h2 h3 (by rw [getD_set_ne true hne]; exact h4) ih
theorem WAny.first {ops : Array Oper} {Q : Act → World → Prop} {cold : List Nat} {S S' : World → Prop} {i : Nat} {oi : Oper} {v : Value} (hi : ops[i]? = some oi) (k1 : ∀ c, oi.op ≠ .defer c) (k2 : ∀ cs b, oi.op ≠ .select cs b)
    (alw : Prop) (hSS : ∀ w, S w → S' w) (hal : alw → ∀ w, S' w) (hic : i ∉ cold) :
    ∀ (n : Nat) (L : Array Bool) (a : Act) (w : World),
      (∀ j oj, ops[j]? = some oj → j ≠ i → L.getD j true = false → (∀ e ∈ oj.after, Region.binds .any e = true → e.on ≠ i) → oi.apart ops oj = true) →
      (∀ j oj, ops[j]? = some oj → j ≠ i → L.getD j true = false → j ∈ cold → alw ∨ Chn ops L i j) →
      i ∈ Region.ready .any ops L → YldS P ops S' oi v a → S' w → (live cold L = true → S w) → (alw ∨ live cold L = true) →
      WAny P ops Q cold S n (L.setIfInBounds i true) (a.put oi.dst v) w → WAny P ops Q cold S (n + 1) L a w := by
  intro n
  induction n with
  | zero =>
    intro L a w hfree hcold hr hy hS' hS hl H
    refine ⟨fun h => (by rw [h] at hr; cases hr), fun j hj => ?_⟩
    by_cases hji : j = i
    · subst hji; exact hy.step hi k1 k2 hS' ⟨fun hl => hS (live_set hl), H⟩
    · have := ready_mono hj hji
      rw [H.1] at this
      cases this
  | succ n ih =>
    intro L a w hfree hcold hr hy hS' hS hl H
    refine ⟨fun h => (by rw [h] at hr; cases hr), fun j hj => ?_⟩
    by_cases hji : j = i
    · subst hji; exact hy.step hi k1 k2 hS' ⟨fun hl => hS (live_set hl), H⟩
    · have h1 := H.2 j (ready_mono hj hji)
      obtain ⟨hjun, oj, hoj, hall⟩ := mem_ready.1 hj
      have hnot : ∀ e ∈ oj.after, Region.binds .any e = true → e.on ≠ i := fun e he hb heq => by
        have h1 := hall e he hb
        have h0 := (mem_ready.1 hr).1
        rw [heq] at h1
        rcases Nat.lt_or_ge i L.size with h' | h'
        · simp [h'] at h0 h1; rw [h0] at h1; cases h1
        · simp [Array.getElem?_eq_none h'] at h1
      have hap := hfree j oj hoj hji hjun hnot
      have hiun : L.getD i true = false := (mem_ready.1 hr).1
      have hhot : alw ∨ j ∉ cold := by
        by_cases hc : j ∈ cold
        · rcases hcold j oj hoj hji hjun hc with h | h
          · exact .inl h
          · exact (h.wait hiun hj).elim
        · exact .inr hc
      have hcold' : ∀ k ok, ops[k]? = some ok → k ≠ i → (L.setIfInBounds j true).getD k true = false → k ∈ cold → alw ∨ Chn ops (L.setIfInBounds j true) i k := fun k ok hk hki hun hc => by
        have hkj : j ≠ k := by
          rintro rfl
          have := (mem_ready.1 hj).1
          rcases Nat.lt_or_ge j L.size with h' | h'
          · simp [h'] at hun
          · simp [Array.getElem?_eq_none h'] at this
        rw [getD_set_ne true hkj] at hun
        exact (hcold k ok hk hki hun hc).imp id fun h => h.set hiun hj
      have h2 := OpStep.unput hoj hap k2 hy h1
      have hfree' : ∀ k ok, ops[k]? = some ok → k ≠ i → (L.setIfInBounds j true).getD k true = false →
          (∀ e ∈ ok.after, Region.binds .any e = true → e.on ≠ i) → oi.apart ops ok = true := fun k ok hk hki hun hno => by
        refine hfree k ok hk hki ?_ hno
        by_cases hjk : j = k
        · subst hjk; exact hjun
        · rw [getD_set_ne true hjk] at hun; exact hun
      refine h2.mono fun a' w' ⟨y1, y2, y3⟩ => ?_
      rw [Array.setIfInBounds_comm _ _ (Ne.symm hji)] at y2 y3
      have hS2 : live cold (L.setIfInBounds j true) = true → S w' := fun h => y2 (live_set' h hic)
      refine ⟨hS2, ih (L.setIfInBounds j true) a' w' hfree' hcold' (ready_mono hr (Ne.symm hji)) y1 ?_ hS2 ?_ y3⟩
      · rcases hhot with h | h
        · exact hal h w'
        · rcases hl with h' | h'
          · exact hal h' w'
          · exact hSS _ (hS2 (live_set' h' h))
      · rcases hhot with h | h
        · exact .inl h
        · rcases hl with h' | h'
          · exact .inl h'
          · exact .inr (live_set' h' h)

/-! ### The tree of a drawn region -/
inductive Md where
  | eq | ext | gen
/-- takeP: an operation that only reckons goes first; takeR: one that reads; alt: each of those that may come up now; altS: likewise, and S holds behind it. -/
inductive DT where
  | done
  | stop
  | takeP (i : Nat) (s : St) (t : DT)
  | takeR (i : Nat) (s : St) (t : DT)
  | alt (i : Nat) (s : St) (t : DT) (rest : DT)
  | altS (i : Nat) (s : St) (t : DT) (rest : DT)
  | re (cold : List Nat) (t : DT)
def StV (s : St) (f : Fr) (h : H) (K : Slot → Fr → Prop) : Prop :=
  match s.op with
  | .e _ => False
  | .v vo => match s.g with
    | none => vo.val f h fun x => K x (f.put s.d x)
    | some (t, want) => match isUn (f.get t) with
      | true => K (.v (.tuple ⟨[]⟩)) (f.put s.d (.v (.tuple ⟨[]⟩)))
      | false => gd f t fun f b => match b, want with
        | true, true | false, false => vo.val f h fun x => K x (f.put s.d x)
        | _, _ => K (.v (.tuple ⟨[]⟩)) (f.put s.d (.v (.tuple ⟨[]⟩)))
/-- What is read stays as it is where S holds. -/
def StStay (s : St) (f : Fr) (S : H → Prop) (x : Slot) : Prop :=
  match s.op with
  | .e _ => False
  | .v vo => ∀ h', S h' → vo.val f h' fun y => y = x ∧ x.val ≠ none
def atEnd : DT → Bool
  | .stop => true
  | _ => false
def DT.den (P : Program) (md : Md) (h0 : H) (S : H → Prop) : DT → Fr → H → (Fr → H → Prop) → Prop
  | .done, f, h, K => K f h
  | .stop, _, _, _ => True
  | .takeP _ s t, f, h, K => StV s f h fun _ f' => t.den P md h0 S f' h K
  | .takeR _ s t, f, h, K => match md with
    | .gen => (match s.op, s.g with
      | .v vo, none => vo.val f h fun x => (∀ h', S h' → vo.val f h' fun y => y = x ∧ x.val ≠ none) ∧ t.den P md h0 S (f.put s.d x) h K
      | _, _ => False)
    | _ => StV s f h0 fun _ f' => t.den P md h0 S f' h K
  | .alt _ s t rest, f, h, K => (match atEnd rest with
    | true => s.den P f h fun f' h' => t.den P md h0 S f' h' K
    | false => s.den P f h (fun f' h' => t.den P md h0 S f' h' K) ∧ rest.den P md h0 S f h K)
  | .altS _ s t rest, f, h, K => (match atEnd rest with
    | true => s.den P f h fun f' h' => S h' ∧ t.den P md h0 S f' h' K
    | false => s.den P f h (fun f' h' => S h' ∧ t.den P md h0 S f' h' K) ∧ rest.den P md h0 S f h K)
  | .re _ t, f, h, K => t.den P .eq h S f h K
theorem DT.den_alt {P : Program} {md : Md} {h0 : H} {S : H → Prop} {i : Nat} {s : St} {t rest : DT} {f : Fr} {h : H} {K : Fr → H → Prop} (hd : (DT.alt i s t rest).den P md h0 S f h K) :
    s.den P f h (fun f' h' => t.den P md h0 S f' h' K) ∧ rest.den P md h0 S f h K := by
  simp only [DT.den] at hd
  split at hd
  · rename_i he; cases rest <;> first | (simp [atEnd] at he; done) | exact ⟨hd, trivial⟩
  · exact hd
theorem DT.den_altS {P : Program} {md : Md} {h0 : H} {S : H → Prop} {i : Nat} {s : St} {t rest : DT} {f : Fr} {h : H} {K : Fr → H → Prop} (hd : (DT.altS i s t rest).den P md h0 S f h K) :
    s.den P f h (fun f' h' => S h' ∧ t.den P md h0 S f' h' K) ∧ rest.den P md h0 S f h K := by
  simp only [DT.den] at hd
  split at hd
  · rename_i he; cases rest <;> first | (simp [atEnd] at he; done) | exact ⟨hd, trivial⟩
  · exact hd

def VOp.pure : VOp → Bool
  | .ld _ _ | .lda _ _ | .ldf _ _ _ => false
  | _ => true
def pureV : IOp → Bool
  | .v vo => vo.pure
  | .e _ => false
def isV : IOp → Bool
  | .v _ => true
  | .e _ => false
def isAlloc : IOp → Bool
  | .e (.alc _ _) | .e (.box _ _) | .e (.bsl _ _ _ _ _) | .e (.mks _ _ _ _ _ _) => true
  | _ => false
def chnS (ops : Array Oper) (L : Array Bool) (i : Nat) (R : Array Bool) (j : Nat) : Array Bool := match ops[j]? with
  | some oj => if oj.after.any (fun e => Region.binds .any e && (e.on == i || (!L.getD e.on true && R.getD e.on false))) then R.setIfInBounds j true else R
  | none => R
/-- What surely comes behind i, row by row. -/
def chnR (ops : Array Oper) (L : Array Bool) (i : Nat) : Array Bool := (List.range ops.size).foldl (chnS ops L i) (Array.replicate ops.size false)
/-- Whatever may come ahead of i is not cold. -/
def hotOk (ops : Array Oper) (cold : List Nat) (L : Array Bool) (i : Nat) : Bool :=
  cold.all fun j => j != i && (L.getD j true || match ops[j]? with
    | some _ => (chnR ops L i).getD j false
    | none => true)
def altsOf : DT → List Nat
  | .alt i _ _ rest | .altS i _ _ rest => i :: altsOf rest
  | _ => []
def isStop : DT → Bool
  | .alt _ _ _ rest | .altS _ _ _ rest => isStop rest
  | .stop => true
  | _ => false
def nlq : List Nat → List Nat → Bool
  | [], [] => true
  | a :: l, b :: m => a == b && nlq l m
  | _, _ => false
theorem nlq_eq {l m : List Nat} (h : nlq l m = true) : l = m := by
  induction l generalizing m with
  | nil => cases m <;> first | rfl | cases h
  | cons a l ih => cases m with
    | nil => cases h
    | cons b m => simp [nlq] at h; rw [h.1, ih h.2]
def stAt (P : Program) (ops : Array Oper) (i : Nat) (s : St) : Bool := match ops[i]? with
  | some o => chkSt P ops o s
  | none => false
/-- top: is it the first of its row? -/
def chkDT (P : Program) (ops : Array Oper) (md : Md) (cold : List Nat) : DT → Array Bool → Bool → Nat → Bool
  | .done, L, _, _ => nlq (Region.ready .any ops L) []
  | .stop, _, top, _ => !top
  | .takeP i s t, L, top, n + 1 => top && stAt P ops i s && pureV s.op && !cold.contains i && Region.free .any ops L i && (Region.ready .any ops L).contains i && chkDT P ops md cold t (L.setIfInBounds i true) true n
  | .takeR i s t, L, top, n + 1 => top && live cold L && stAt P ops i s && isV s.op && Region.free .any ops L i && (Region.ready .any ops L).contains i && !cold.contains i && hotOk ops cold L i && chkDT P ops md cold t (L.setIfInBounds i true) true n
  | .alt i s t rest, L, top, n + 1 => (!top || (nlq (Region.ready .any ops L) (i :: altsOf rest) && isStop rest)) && stAt P ops i s &&
      (cold.contains i || isV s.op || (match md with | .ext => isAlloc s.op | _ => false)) &&
      chkDT P ops md cold t (L.setIfInBounds i true) true n && chkDT P ops md cold rest L false (n + 1)
  | .altS i s t rest, L, top, n + 1 => (!top || (nlq (Region.ready .any ops L) (i :: altsOf rest) && isStop rest)) && stAt P ops i s && (match md with | .gen => true | _ => false) &&
      chkDT P ops md cold t (L.setIfInBounds i true) true n && chkDT P ops md cold rest L false (n + 1)
  | .re c t, L, top, n => top && !live cold L && chkDT P ops .eq c t L true n
  | _, _, _, _ => false
end Go.Fw

/- Regions whose order the tape picks: the law. -/
set_option linter.unusedVariables false
set_option linter.unusedSimpArgs false
namespace Go.Fw
variable {P : Program}

theorem pure_val {vo : VOp} (hp : vo.pure = true) (f : Fr) (h h' : H) (K : Slot → Prop) : vo.val f h K = vo.val f h' K := by
  cases vo <;> first | rfl | (simp [VOp.pure] at hp; done)
theorem YldS.weaken {ops : Array Oper} {S S' : World → Prop} {o : Oper} {v : Value} {a : Act} (h : YldS P ops S o v a) (hs : ∀ w, S' w → S w) : YldS P ops S' o v a :=
  h.imp (fun ⟨a, b⟩ => ⟨a, fun w hw => b w (hs w hw)⟩) id
theorem gd_congr {f : Fr} {t : Nat} {C C' : Fr → Bool → Prop} (h : ∀ f b, C f b = C' f b) : gd f t C = gd f t C' := by
  unfold gd; split <;> simp only [h]
theorem StV_pure {s : St} (hp : pureV s.op = true) (f : Fr) (h h' : H) (K : Slot → Fr → Prop) : StV s f h K = StV s f h' K := by
  unfold StV
  cases hs : s.op with
  | e eo => rfl
  | v vo =>
    rw [hs] at hp
    cases hg : s.g with
    | none => exact pure_val hp ..
    | some g =>
      obtain ⟨t, want⟩ := g
      simp only
      split
      · rfl
      · refine gd_congr fun f b => ?_
        cases b <;> cases want <;> first | rfl | exact pure_val hp ..

theorem wanted_of {ops : Array Oper} {o : Oper} {a : Act} {j t : Nat} {want b : Bool} (hog : o.guard = some (j, want)) (hj : (ops[j]?).bind (·.dst) = some t) (hv : a.tmps.getD t undef = .bool b) :
    Region.wanted o (yielded ops a.tmps) = (b == want) := by
  have hy : yielded ops a.tmps j = some b := by
    unfold yielded
    rw [hj]
    have : a.tmps[t]? = some (.bool b) := by
      rw [Array.getD_eq_getD_getElem?] at hv
      cases h : a.tmps[t]? with
      | none => rw [h] at hv; simp [undef] at hv
      | some x => rw [h] at hv; simp at hv; rw [hv]
    simp [this]
  simp only [Region.wanted, hog, hy]
  cases b <;> cases want <;> rfl

theorem StV.sound {ops : Array Oper} {o : Oper} {s : St} (hc : chkSt P ops o s = true) {f : Fr} {a : Act} (hs : Sim f a) {h : H} {K : Slot → Fr → Prop} (hv : StV s f h K) :
    ∃ v x f1, K x f1 ∧ Sim f1 (a.put o.dst v) ∧ YldS P ops (fun w => Ext h w.heap) o v a := by
  simp only [chkSt, Bool.and_eq_true] at hc
  obtain ⟨⟨hdst, hop⟩, hg⟩ := hc
  have hdst := optq_eq hdst
  unfold StV at hv
  cases hso : s.op with
  | e eo => rw [hso] at hv; exact hv.elim
  | v vo =>
    rw [hso] at hv hop
    simp only at hv
    cases hsg : s.g with
    | none =>
      rw [hsg] at hv hg
      cases hog : o.guard with
      | some g => rw [hog] at hg; cases hg
      | none =>
        obtain ⟨v, x, h1, h2, h3⟩ := V.sound (K := fun x => K x (f.put s.d x)) hop hs hv
        exact ⟨v, x, _, h2, by rw [hdst]; exact hs.put _ h1, .inl ⟨by simp [Region.wanted, hog], h3⟩⟩
    | some g =>
      obtain ⟨t, want⟩ := g
      rw [hsg] at hv hg
      cases hog : o.guard with
      | none => rw [hog] at hg; cases hg
      | some g' =>
        obtain ⟨j, want'⟩ := g'
        rw [hog] at hg
        simp only [Bool.and_eq_true, beq_iff_eq] at hg
        obtain ⟨rfl, hj⟩ := hg
        have hj := optq_eq hj
        simp only at hv
        split at hv
        · rename_i hu
          have hb := hs.vals t _ (isUn_eq hu)
          have hy : yielded ops a.tmps j = none := by
            unfold yielded
            rw [hj]
            rw [Array.getD_eq_getD_getElem?] at hb
            cases h : a.tmps[t]? with
            | none => simp [h]
            | some x => rw [h] at hb; simp [undef] at hb; subst hb; simp [h]
          exact ⟨undef, _, _, hv, by rw [hdst]; exact hs.put _ (agrees_v _), .inr ⟨by simp [Region.wanted, hog, hy], rfl⟩⟩
        obtain ⟨f', b, hs', hC, hb⟩ := gd_sound hs hv
        have hw := wanted_of (o := o) hog hj hb
        cases b <;> cases want' <;> simp only at hC
        · obtain ⟨v, x, h1, h2, h3⟩ := V.sound (K := fun x => K x (f'.put s.d x)) hop hs' hC
          exact ⟨v, x, _, h2, by rw [hdst]; exact hs'.put _ h1, .inl ⟨by rw [hw]; rfl, h3⟩⟩
        · exact ⟨undef, _, _, hC, by rw [hdst]; exact hs'.put _ (agrees_v _), .inr ⟨by rw [hw]; rfl, rfl⟩⟩
        · exact ⟨undef, _, _, hC, by rw [hdst]; exact hs'.put _ (agrees_v _), .inr ⟨by rw [hw]; rfl, rfl⟩⟩
        · obtain ⟨v, x, h1, h2, h3⟩ := V.sound (K := fun x => K x (f'.put s.d x)) hop hs' hC
          exact ⟨v, x, _, h2, by rw [hdst]; exact hs'.put _ h1, .inl ⟨by rw [hw]; rfl, h3⟩⟩

def Sof (md : Md) (h0 : H) (S : H → Prop) (h : H) : Prop := match md with
  | .eq => h = h0
  | .ext => Ext h0 h
  | .gen => S h

theorem New.ext {h : H} {o : Obj} {b : Nat} {h' : H} (n : New h o b h') : Ext h h' := by rw [n.eq]; exact Ext.push _ _
/-- Allocations leave what lay there. -/
theorem alloc_ext {eo : EOp} (ha : isAlloc (.e eo) = true) {f : Fr} {h : H} {K : Slot → H → Prop} (hd : eo.den P f h K) : eo.den P f h fun s h' => K s h' ∧ Ext h h' := by
  cases eo <;> first | (simp [isAlloc] at ha; done) | skip
  · exact fun b h' n => ⟨hd b h' n, n.ext⟩
  · simp only [EOp.den] at hd ⊢; split at hd
    · exact fun b h' n => ⟨hd b h' n, n.ext⟩
    · exact hd.elim
  · simp only [EOp.den] at hd ⊢
    rename_i e size z n ps
    generalize repV z n = cs at *
    induction ps generalizing cs with
    | nil => exact fun b h' n => ⟨hd b h' n, n.ext⟩
    | cons p ps ih =>
      obtain ⟨off, m, x⟩ := p
      unfold fillS at hd ⊢
      split at hd
      · exact ⟨hd.1, hd.2.1, ih (cs := _) (hd := hd.2.2) ha⟩
      · exact hd.elim
  · simp only [EOp.den] at hd ⊢; split at hd
    · exact ⟨hd.1, hd.2.1, hd.2.2.1, fun b h' n => ⟨hd.2.2.2 b h' n, n.ext⟩⟩
    · exact hd.elim
theorem gd_imp {f : Fr} {t : Nat} {C C' : Fr → Bool → Prop} (h : ∀ f b, C f b → C' f b) (x : gd f t C) : gd f t C' := by
  unfold gd at *; split at x
  · exact h _ _ x
  · exact ⟨fun p => h _ _ (x.1 p), fun p => h _ _ (x.2 p)⟩
  · exact ⟨fun p => h _ _ (x.1 p), fun p => h _ _ (x.2 p)⟩
  · exact x.elim
theorem St.alloc_ext {s : St} (ha : isAlloc s.op = true) {f : Fr} {h : H} {K : Fr → H → Prop} (hd : s.den P f h K) : s.den P f h fun f' h' => K f' h' ∧ Ext h h' := by
  unfold St.den at *
  cases hs : s.op with
  | v vo => rw [hs] at ha; cases ha
  | e eo =>
    rw [hs] at ha hd
    split at hd
    · exact Fw.alloc_ext ha hd
    · split at hd
      · exact ⟨hd, Ext.refl _⟩
      refine gd_imp (fun f b => ?_) hd
      split
      · exact fun x => Fw.alloc_ext ha x
      · exact fun x => Fw.alloc_ext ha x
      · exact fun x => ⟨x, Ext.refl _⟩
/-- What only reckons or reads leaves the heap. -/
theorem St.v_same {s : St} (hv : isV s.op = true) {f : Fr} {h : H} {K : Fr → H → Prop} (hd : s.den P f h K) : s.den P f h fun f' h' => K f' h' ∧ h' = h := by
  unfold St.den at *
  cases hs : s.op with
  | e eo => rw [hs] at hv; cases hv
  | v vo =>
    rw [hs] at hd
    have key : ∀ (f : Fr) (C : Slot → Prop), vo.val f h C → vo.val f h fun x => C x ∧ h = h := by
      intro f C hC
      have : (fun x => C x ∧ h = h) = C := by funext x; simp
      rw [this]; exact hC
    split at hd
    · exact key _ _ hd
    · split at hd
      · exact ⟨hd, rfl⟩
      refine gd_imp (fun f b => ?_) hd
      split
      · exact fun x => key _ _ x
      · exact fun x => key _ _ x
      · exact fun x => ⟨x, rfl⟩

def DSound (P : Program) (ops : Array Oper) (Q : Act → World → Prop) (cold : List Nat) (S : H → Prop) (n : Nat) (top : Bool) (t : DT) (L : Array Bool) (a : Act) (w : World) : Prop :=
  if top then WAny P ops Q cold (fun w => S w.heap) n L a w
  else ∀ i ∈ altsOf t, OpStep P ops i (fun a' w' => (live cold (L.setIfInBounds i true) = true → S w'.heap) ∧ WAny P ops Q cold (fun w => S w.heap) (n - 1) (L.setIfInBounds i true) a' w') a w

theorem stAt_some {ops : Array Oper} {i : Nat} {s : St} (h : stAt P ops i s = true) : ∃ o, ops[i]? = some o ∧ chkSt P ops o s = true := by
  unfold stAt at h; split at h
  · exact ⟨_, by assumption, h⟩
  · cases h
theorem chkSt_kind {ops : Array Oper} {o : Oper} {s : St} (h : chkSt P ops o s = true) : (∀ c, o.op ≠ .defer c) ∧ (∀ cs b, o.op ≠ .select cs b) := by
  simp only [chkSt, Bool.and_eq_true] at h
  exact chkI_kind h.1.2
theorem chnS_spec {ops : Array Oper} {L : Array Bool} {i : Nat} : ∀ (l : List Nat) (R : Array Bool), (∀ j, R.getD j false = true → Chn ops L i j) → ∀ j, (l.foldl (chnS ops L i) R).getD j false = true → Chn ops L i j
  | [], R, hR => hR
  | k :: l, R, hR => by
    rw [List.foldl_cons]
    refine chnS_spec l _ fun j hj => ?_
    unfold chnS at hj
    split at hj
    · rename_i oj hoj
      split at hj
      · rename_i hb
        by_cases hkj : j = k
        · subst hkj
          obtain ⟨e, he, hb⟩ := Array.any_eq_true'.1 hb
          simp only [Bool.and_eq_true, Bool.or_eq_true, beq_iff_eq, Bool.not_eq_true'] at hb
          rcases hb with ⟨h1, h2 | ⟨h2, h3⟩⟩
          · exact .base hoj he h1 h2
          · exact .step hoj he h1 h2 (hR _ h3)
        · refine hR j ?_
          rw [← hj]
          simp only [Array.getD_eq_getD_getElem?, Array.getElem?_setIfInBounds]
          rw [if_neg (fun h => hkj h.symm)]
      · exact hR j hj
    · exact hR j hj
theorem chnR_spec {ops : Array Oper} {L : Array Bool} {i j : Nat} (h : (chnR ops L i).getD j false = true) : Chn ops L i j := by
  refine chnS_spec _ _ (fun j hj => ?_) j h
  simp only [Array.getD_eq_getD_getElem?, Array.getElem?_replicate] at hj
  split at hj <;> simp at hj
theorem hotOk_spec {ops : Array Oper} {cold : List Nat} {L : Array Bool} {i : Nat} (h : hotOk ops cold L i = true) {j : Nat} {oj : Oper} (hj : ops[j]? = some oj) (hji : j ≠ i) (hun : L.getD j true = false)
    (hmem : j ∈ cold) : Chn ops L i j := by
  simp only [hotOk, List.all_eq_true] at h
  have := h j hmem
  simp only [hj, hun, Bool.false_or, Bool.and_eq_true] at this
  exact chnR_spec this.2

theorem WAny.rebase {P : Program} {ops : Array Oper} {Q : Act → World → Prop} {cold cold' : List Nat} {S S' : World → Prop} : ∀ (n : Nat) (L : Array Bool) (a : Act) (w : World), live cold L = false → WAny P ops Q cold' S' n L a w → WAny P ops Q cold S n L a w
  | 0, _, _, _, _, h => h
  | n + 1, L, a, w, hl, h => ⟨h.1, fun i hi => (h.2 i hi).mono fun a' w' ⟨_, y⟩ => by
      have hl' : live cold (L.setIfInBounds i true) = false := by
        cases hx : live cold (L.setIfInBounds i true) with
        | false => rfl
        | true => rw [live_set hx] at hl; cases hl
      exact ⟨fun hx => (by rw [hl'] at hx; cases hx), WAny.rebase n _ a' w' hl' y⟩⟩

theorem DT.sound {ops : Array Oper} {Q : Act → World → Prop} {cold : List Nat} {md : Md} {h0 : H} {S : H → Prop} {W : List Nat} {K : Fr → H → Prop} {a0 : Act} {w0 : World} (hW : ∀ (i : Nat) (o : Oper), ops[i]? = some o → ∀ d, o.dst = some d → d ∈ W)
    (hQ : ∀ f' a' w', Sim f' a' → K f' w'.heap → w'.os = w0.os → w'.output = w0.output → Agr W a0 a' → Q a' w') :
    ∀ (t : DT) (n : Nat) (L : Array Bool) (top : Bool) (f : Fr) (a : Act) (w : World), L.size = ops.size → chkDT P ops md cold t L top n = true → Sim f a → (live cold L = true → Sof md h0 S w.heap) → w.os = w0.os → w.output = w0.output → Agr W a0 a →
      t.den P md h0 S f w.heap K → DSound P ops Q cold (Sof md h0 S) n top t L a w := by
  intro t
  induction t generalizing md cold h0 S with
  | done =>
    intro n L top f a w hL hc hs hl h1 h2 hag hd
    simp only [chkDT] at hc
    have hr := nlq_eq hc
    unfold DSound
    cases top
    · intro i hi; simp [altsOf] at hi
    · have hq := hQ f a w hs hd h1 h2 hag
      cases n with
      | zero => exact ⟨hr, hq⟩
      | succ n => exact ⟨fun _ => hq, fun i hi => by rw [hr] at hi; cases hi⟩
  | stop =>
    intro n L top f a w hL hc hs hl h1 h2 hag hd
    simp only [chkDT, Bool.not_eq_true'] at hc
    subst hc
    intro i hi; simp [altsOf] at hi
  | takeP i s t ih =>
    intro n L top f a w hL hc hs hl h1 h2 hag hd
    cases n with
    | zero => simp [chkDT] at hc
    | succ n =>
    simp only [chkDT, Bool.and_eq_true, Bool.not_eq_true'] at hc
    obtain ⟨⟨⟨⟨⟨⟨rfl, c1⟩, c2⟩, c3⟩, c4⟩, c5⟩, c6⟩ := hc
    obtain ⟨o, ho, hst⟩ := stAt_some c1
    simp only [DT.den] at hd
    rw [StV_pure c2 f w.heap #[]] at hd
    obtain ⟨v, x, f1, hk, hs1, hy⟩ := StV.sound hst hs hd
    have hic : i ∉ cold := by simpa using c3
    have hrec := ih n (L.setIfInBounds i true) true f1 (a.put o.dst v) w (by simp [hL]) c6 hs1 (fun h => hl (live_set h)) h1 h2 ((hag.trans (Agr.put (W := W) (fun d hd => hW i o ho d hd))).mono (by simp)) hk
    obtain ⟨k1, k2⟩ := chkSt_kind hst
    exact WAny.first (S' := fun _ => True) ho k1 k2 True (fun _ _ => trivial) (fun _ _ => trivial) hic n L a w
      (fun j oj hj hji hun hno => Region.free_spec ho c4 j oj hj hji hun hno) (fun _ _ _ _ _ _ => .inl trivial) (by simpa using c5) (hy.weaken fun w _ => fun b o h => by simp at h) trivial hl (.inl trivial) hrec
  | takeR i s t ih =>
    intro n L top f a w hL hc hs hl h1 h2 hag hd
    cases n with
    | zero => simp [chkDT] at hc
    | succ n =>
    simp only [chkDT, Bool.and_eq_true, Bool.not_eq_true'] at hc
    obtain ⟨⟨⟨⟨⟨⟨⟨⟨rfl, c0⟩, c1⟩, c2⟩, c4⟩, c5⟩, c3⟩, c7⟩, c6⟩ := hc
    obtain ⟨o, ho, hst⟩ := stAt_some c1
    obtain ⟨k1, k2⟩ := chkSt_kind hst
    have hic : i ∉ cold := by simpa using c3
    have hS := hl c0
    have fin : ∀ v f1, Sim f1 (a.put o.dst v) → YldS P ops (fun w => Sof md h0 S w.heap) o v a → t.den P md h0 S f1 w.heap K → DSound P ops Q cold (Sof md h0 S) (n + 1) true (.takeR i s t) L a w := by
      intro v f1 hs1 hy hk
      have hrec := ih n (L.setIfInBounds i true) true f1 (a.put o.dst v) w (by simp [hL]) c6 hs1 (fun h => hl (live_set h)) h1 h2 ((hag.trans (Agr.put (W := W) (fun d hd => hW i o ho d hd))).mono (by simp)) hk
      exact WAny.first (S' := fun w => Sof md h0 S w.heap) ho k1 k2 False (fun _ h => h) (fun h => h.elim) hic n L a w
        (fun j oj hj hji hun hno => Region.free_spec ho c4 j oj hj hji hun hno) (fun j oj hj hji hun hc => .inr (hotOk_spec c7 hj hji hun hc)) (by simpa using c5) hy hS hl (.inr c0) hrec
    simp only [DT.den] at hd
    cases md with
    | eq =>
      obtain ⟨v, x, f1, hk, hs1, hy⟩ := StV.sound hst hs hd
      exact fin v f1 hs1 (hy.weaken fun w hw => by simp only [Sof] at hw; rw [hw]; exact Ext.refl _) hk
    | ext =>
      obtain ⟨v, x, f1, hk, hs1, hy⟩ := StV.sound hst hs hd
      exact fin v f1 hs1 (hy.weaken fun w hw => hw) hk
    | gen =>
      simp only at hd
      simp only [chkSt, Bool.and_eq_true] at hst
      obtain ⟨⟨hdst, hop⟩, hg⟩ := hst
      have hdst := optq_eq hdst
      split at hd
      · rename_i vo hso hsg
        rw [hso] at hop
        rw [hsg] at hg
        cases hog : o.guard with
        | some g => rw [hog] at hg; cases hg
        | none =>
          obtain ⟨v, x, g1, ⟨g2, g4⟩, g3⟩ := V.sound (h := w.heap) (K := fun x => (∀ h', S h' → vo.val f h' fun y => y = x ∧ x.val ≠ none) ∧ t.den P .gen h0 S (f.put s.d x) w.heap K) hop hs hd
          refine fin v (f.put s.d x) (by rw [hdst]; exact hs.put _ g1) (.inl ⟨by simp [Region.wanted, hog], fun w' hw' => ?_⟩) g4
          obtain ⟨v', y, e1, ⟨rfl, e2⟩, e3⟩ := V.sound (h := w'.heap) (K := fun y => y = x ∧ x.val ≠ none) hop hs (g2 w'.heap hw')
          have : v' = v := by
            cases hx : y.val with
            | none => exact absurd hx e2
            | some u => rw [← e1 u hx, ← g1 u hx]
          rw [← this]; exact e3 w' (Ext.refl _)
      · exact hd.elim
  | alt i s t rest ih1 ih2 =>
    intro n L top f a w hL hc hs hl h1 h2 hag hd
    cases n with
    | zero => simp [chkDT] at hc
    | succ n =>
    simp only [chkDT, Bool.and_eq_true] at hc
    obtain ⟨⟨⟨⟨c0, c1⟩, c2⟩, c3⟩, c4⟩ := hc
    obtain ⟨o, ho, hst⟩ := stAt_some c1
    have hd := DT.den_alt hd
    have hstep : OpStep P ops i (fun a' w' => (live cold (L.setIfInBounds i true) = true → Sof md h0 S w'.heap) ∧ WAny P ops Q cold (fun w => Sof md h0 S w.heap) n (L.setIfInBounds i true) a' w') a w := by
      have hden : ∃ Kc : Fr → H → Prop, s.den P f w.heap Kc ∧ ∀ f' h', Kc f' h' → t.den P md h0 S f' h' K ∧ (live cold (L.setIfInBounds i true) = true → Sof md h0 S h') := by
        by_cases hm : i ∈ cold
        · refine ⟨_, hd.1, fun f' h' hk => ⟨hk, fun hlv => ?_⟩⟩
          exfalso
          simp only [live, List.all_eq_true, Bool.not_eq_true'] at hlv
          have := hlv i hm
          have hlt : i < L.size := by rw [hL]; exact (Array.getElem?_eq_some_iff.1 ho).1
          simp [hlt] at this
        · have hm' : cold.contains i = false := by simpa using hm
          rw [hm'] at c2
          simp only [Bool.false_or, Bool.or_eq_true] at c2
          rcases c2 with c2 | c2
          · exact ⟨_, St.v_same c2 hd.1, fun f' h' ⟨hk, e⟩ => ⟨hk, fun hlv => by rw [e]; exact hl (live_set hlv)⟩⟩
          · cases md with
            | eq => cases c2
            | gen => cases c2
            | ext => exact ⟨_, St.alloc_ext c2 hd.1, fun f' h' ⟨hk, e⟩ => ⟨hk, fun hlv => Ext.trans (hl (live_set hlv)) e⟩⟩
      obtain ⟨Kc, hden, hkc⟩ := hden
      refine St.sound ho hst hs hden ?_
      intro f' a' w' hs' hk e1 e2 hag'
      obtain ⟨hk1, hk2⟩ := hkc _ _ hk
      refine ⟨hk2, ?_⟩
      exact ih1 n (L.setIfInBounds i true) true f' a' w' (by simp [hL]) c3 hs' hk2 (e1.trans h1) (e2.trans h2) ((hag.trans (hag'.mono (V := W) (by
        intro d hd; simp only [chkSt, Bool.and_eq_true] at hst; have := optq_eq hst.1.1; simp only [Option.mem_toList] at hd; exact hW i o ho d (by rw [this]; exact hd)))).mono (by simp)) hk1
    have hrest := ih2 (n + 1) L false f a w hL c4 hs hl h1 h2 hag hd.2
    have hall : ∀ j ∈ altsOf (.alt i s t rest), OpStep P ops j (fun a' w' => (live cold (L.setIfInBounds j true) = true → Sof md h0 S w'.heap) ∧ WAny P ops Q cold (fun w => Sof md h0 S w.heap) n (L.setIfInBounds j true) a' w') a w := by
      intro j hj
      simp only [altsOf, List.mem_cons] at hj
      rcases hj with rfl | hj
      · exact hstep
      · exact hrest j hj
    unfold DSound
    cases top
    · exact hall
    · simp only [Bool.not_true, Bool.false_or, Bool.and_eq_true] at c0
      have hr := nlq_eq c0.1
      refine ⟨(fun h => by rw [hr] at h; cases h), fun j hj => ?_⟩
      rw [hr] at hj
      exact hall j hj
  | altS i s t rest ih1 ih2 =>
    intro n L top f a w hL hc hs hl h1 h2 hag hd
    cases n with
    | zero => simp [chkDT] at hc
    | succ n =>
    simp only [chkDT, Bool.and_eq_true] at hc
    obtain ⟨⟨⟨⟨c0, c1⟩, c2⟩, c3⟩, c4⟩ := hc
    obtain ⟨o, ho, hst⟩ := stAt_some c1
    have hd := DT.den_altS hd
    cases md with
    | eq => cases c2
    | ext => cases c2
    | gen =>
    have hstep : OpStep P ops i (fun a' w' => (live cold (L.setIfInBounds i true) = true → Sof .gen h0 S w'.heap) ∧ WAny P ops Q cold (fun w => Sof .gen h0 S w.heap) n (L.setIfInBounds i true) a' w') a w := by
      refine St.sound ho hst hs hd.1 ?_
      intro f' a' w' hs' hk e1 e2 hag'
      refine ⟨fun _ => hk.1, ?_⟩
      exact ih1 n (L.setIfInBounds i true) true f' a' w' (by simp [hL]) c3 hs' (fun _ => hk.1) (e1.trans h1) (e2.trans h2) ((hag.trans (hag'.mono (V := W) (by
        intro d hd; simp only [chkSt, Bool.and_eq_true] at hst; have := optq_eq hst.1.1; simp only [Option.mem_toList] at hd; exact hW i o ho d (by rw [this]; exact hd)))).mono (by simp)) hk.2
    have hrest := ih2 (n + 1) L false f a w hL c4 hs hl h1 h2 hag hd.2
    have hall : ∀ j ∈ altsOf (.altS i s t rest), OpStep P ops j (fun a' w' => (live cold (L.setIfInBounds j true) = true → Sof .gen h0 S w'.heap) ∧ WAny P ops Q cold (fun w => Sof .gen h0 S w.heap) n (L.setIfInBounds j true) a' w') a w := by
      intro j hj
      simp only [altsOf, List.mem_cons] at hj
      rcases hj with rfl | hj
      · exact hstep
      · exact hrest j hj
    unfold DSound
    cases top
    · exact hall
    · simp only [Bool.not_true, Bool.false_or, Bool.and_eq_true] at c0
      have hr := nlq_eq c0.1
      refine ⟨(fun h => by rw [hr] at h; cases h), fun j hj => ?_⟩
      rw [hr] at hj
      exact hall j hj
  | re c t ih =>
    intro n L top f a w hL hc hs hl h1 h2 hag hd
    have hc : (top && !live cold L && chkDT P ops .eq c t L true n) = true := by cases n <;> simpa [chkDT] using hc
    simp only [Bool.and_eq_true, Bool.not_eq_true'] at hc
    obtain ⟨⟨rfl, c1⟩, c2⟩ := hc
    have hd : t.den P .eq w.heap S f w.heap K := by simpa only [DT.den] using hd
    have := ih (md := .eq) (cold := c) (h0 := w.heap) (S := S) n L true f a w hL c2 hs (fun _ => rfl) h1 h2 hag hd
    exact WAny.rebase n L a w c1 this
end Go.Fw
