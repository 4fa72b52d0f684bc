/- Helpers of this claim: an abstract machine over the model, proved sound; what it computes. Part 0. -/
import GoSem.Claims
import Derived.Below
import Derived.Calls
import Derived.LoopN
import Derived.Tactics
import Derived.Deep.MidRow
import Derived.Laws.StructEq
import Derived.Laws.Slices
import Derived.Laws.Strings
import Derived.Laws.Small
import Derived.Laws.Rows
import Derived.KernelRfl
set_option linter.unusedVariables false
set_option linter.unusedSimpArgs false
namespace Go.Proofs.AM
open Go
inductive Ty where
  | unit
  | int (k : IntKind)
  | bool
  | str
  | slice (t : Ty)
  | pair (a b : Ty)
  | nom (n : Nat)
  | opt (t : Ty)
  deriving DecidableEq, Inhabited
@[reducible] def den (Γ : Nat → Type) : Ty → Type
  | .unit => Unit
  | .int _ => Int
  | .bool => Bool
  | .str => ByteArray
  | .slice t => List (den Γ t)
  | .pair a b => den Γ a × den Γ b
  | .nom n => Γ n
  | .opt t => Option (List (den Γ t))
structure Env where
  Γ : Nat → Type
  row : Nat → Ty
  op : (n : Nat) → Γ n → den Γ (row n)
  cl : (n : Nat) → den Γ (row n) → Γ n
  opcl : ∀ n r, op n (cl n r) = r
  dflt : (n : Nat) → Γ n
  deq : (n : Nat) → DecidableEq (Γ n)
  one : Nat → Bool
abbrev Env.D (E : Env) (t : Ty) : Type := den E.Γ t
abbrev Dt (E : Env) : Type := Sigma (den E.Γ)
abbrev Res (E : Env) : Type := Option (Dt E)
def ncF : Ty → Nat
  | .unit => 0
  | .pair a b => ncF a + ncF b
  | .nom _ => 0
  | .int _ => 1
  | .bool => 1
  | .str => 1
  | .slice _ => 1
  | .opt _ => 1
def nc (E : Env) : Ty → Nat
  | .unit => 0
  | .pair a b => nc E a + nc E b
  | .nom n => ncF (E.row n)
  | .int _ => 1
  | .bool => 1
  | .str => 1
  | .slice _ => 1
  | .opt _ => 1
def dflt (E : Env) : (t : Ty) → den E.Γ t
  | .unit => ()
  | .int _ => (0 : Int)
  | .bool => false
  | .str => (⟨#[]⟩ : ByteArray)
  | .slice _ => []
  | .pair a b => (dflt E a, dflt E b)
  | .nom n => E.dflt n
  | .opt _ => none
def deqD (E : Env) : (t : Ty) → DecidableEq (den E.Γ t)
  | .unit => inferInstanceAs (DecidableEq Unit)
  | .int _ => inferInstanceAs (DecidableEq Int)
  | .bool => inferInstanceAs (DecidableEq Bool)
  | .str => inferInstanceAs (DecidableEq ByteArray)
  | .slice t => have := deqD E t; inferInstanceAs (DecidableEq (List (den E.Γ t)))
  | .pair a b => have := deqD E a; have := deqD E b; inferInstanceAs (DecidableEq (den E.Γ a × den E.Γ b))
  | .nom n => E.deq n
  | .opt t => have := deqD E t; inferInstanceAs (DecidableEq (Option (List (den E.Γ t))))
def meet (E : Env) : Option (Sigma (den E.Γ)) → Option (Sigma (den E.Γ)) → Option (Sigma (den E.Γ))
  | some ⟨t, x⟩, some ⟨t', y⟩ => if h : t = t' then (match deqD E t' (h ▸ x) y with
    | isTrue _ => some ⟨t', y⟩
    | isFalse _ => none) else none
  | _, _ => none
def hasSlice : Ty → Bool
  | .slice _ => true
  | .opt _ => true
  | .nom _ => true
  | .pair a b => hasSlice a || hasSlice b
  | _ => false
inductive Cap (E : Env) where
  | box (n g : Nat)
  | ro (t : Ty) (x : den E.Γ t)
inductive CV (E : Env) where
  | dead
  | leaf (t : Ty) (x : den E.Γ t)
  | nilS
  | nilP
  | ptr (n g off : Nat)
  | ref (n g : Nat) (win : Option (Nat × Nat))
  | optr (n g i off : Nat)
  | ro (t : Ty) (x : den E.Γ t) (off : Nat)
  | fn (f : FuncId) (caps : List (Cap E))
  | fnd (f : FuncId) (l : List (Dt E))
inductive SV (E : Env) where
  | c (v : CV E)
  | agg (cs : List (CV E))
  | tup (vs : List (Bool × List (CV E)))
  | gl (s : Nat) (w : Bool) (v : SV E)
inductive Ob (E : Env) where
  | box (cs : List (CV E))
  | tok (t : Ty) (xs : List (den E.Γ t))
  | frz (t : Ty) (xs : List (den E.Γ t))
  | gone
structure St (E : Env) where
  n : Nat
  sl : List (Nat × SV E)
  ob : List (Nat × Nat × Ob E)
inductive Ex where
  | normal
  | exit (id : Nat)
  | ret
def lk {α : Type} : List (Nat × α) → Nat → Option α
  | [], _ => none
  | (k, v) :: r, n => cond (Nat.beq k n) (some v) (lk r n)
def ins {α : Type} (k : Nat) (v : α) : List (Nat × α) → List (Nat × α)
  | [] => [(k, v)]
  | (k', v') :: r => cond (Nat.beq k k') ((k, v) :: r) (cond (Nat.ble k k') ((k, v) :: (k', v') :: r) ((k', v') :: ins k v r))
variable {E : Env}
def expF (E : Env) : (t : Ty) → den E.Γ t → List (CV E)
  | .unit, _ => []
  | .pair a b, x => expF E a x.1 ++ expF E b x.2
  | .nom _, _ => []
  | .int k, x => [.leaf (.int k) x]
  | .bool, x => [.leaf .bool x]
  | .str, x => [.leaf .str x]
  | .slice t, x => [.leaf (.slice t) x]
  | .opt t, x => [.leaf (.opt t) x]
def exp (E : Env) : (t : Ty) → den E.Γ t → List (CV E)
  | .unit, _ => []
  | .pair a b, x => exp E a x.1 ++ exp E b x.2
  | .nom n, x => expF E (E.row n) (E.op n x)
  | .int k, x => [.leaf (.int k) x]
  | .bool, x => [.leaf .bool x]
  | .str, x => [.leaf .str x]
  | .slice t, x => [.leaf (.slice t) x]
  | .opt t, x => [.leaf (.opt t) x]
def castD {a b : Ty} (h : a = b) (x : den E.Γ a) : den E.Γ b := h ▸ x
def asSl : (t t' : Ty) → den E.Γ t' → Option (den E.Γ t)
  | .slice a, .opt b, o => if h : b = a then some ((castD (a := .opt b) (b := .opt a) (by rw [h]) o : Option (List (den E.Γ a))).getD []) else none
  | .opt a, .slice b, xs => if h : b = a then some (some (castD (a := .slice b) (b := .slice a) (by rw [h]) xs : List (den E.Γ a))) else none
  | _, _, _ => none
def leafOf (t : Ty) : CV E → Option (den E.Γ t)
  | .leaf t' x => if h : t' = t then some (castD h x) else asSl t t' x
  | .nilS => match t with
    | .slice _ => some []
    | .opt _ => some none
    | _ => none
  | _ => none
def one (E : Env) (t : Ty) : List (CV E) → Option (den E.Γ t)
  | [v] => leafOf t v
  | _ => none
def packF (E : Env) : (t : Ty) → List (CV E) → Option (den E.Γ t)
  | .unit, cs => match cs with
    | [] => some ()
    | _ => none
  | .pair a b, cs => match packF E a (cs.take (ncF a)), packF E b (cs.drop (ncF a)) with
    | some x, some y => some (x, y)
    | _, _ => none
  | .nom _, _ => none
  | .int k, cs => one E (.int k) cs
  | .bool, cs => one E .bool cs
  | .str, cs => one E .str cs
  | .slice t, cs => one E (.slice t) cs
  | .opt t, cs => one E (.opt t) cs
def pack (E : Env) : (t : Ty) → List (CV E) → Option (den E.Γ t)
  | .unit, cs => match cs with
    | [] => some ()
    | _ => none
  | .pair a b, cs => match pack E a (cs.take (nc E a)), pack E b (cs.drop (nc E a)) with
    | some x, some y => some (x, y)
    | _, _ => none
  | .nom n, cs => (packF E (E.row n) cs).map (E.cl n)
  | .int k, cs => one E (.int k) cs
  | .bool, cs => one E .bool cs
  | .str, cs => one E .str cs
  | .slice t, cs => one E (.slice t) cs
  | .opt t, cs => one E (.opt t) cs
def tyL : List Ty → Ty
  | [] => .unit
  | [a] => a
  | a :: b :: r => .pair a (tyL (b :: r))
def unL (E : Env) : (ts : List Ty) → den E.Γ (tyL ts) → List (Dt E)
  | [], _ => []
  | [a], x => [⟨a, x⟩]
  | a :: b :: r, x => ⟨a, x.1⟩ :: unL E (b :: r) x.2
def mkL (E : Env) : (ts : List Ty) → List (Dt E) → Option (den E.Γ (tyL ts))
  | [], l => match l with
    | [] => some ()
    | _ => none
  | [a], l => match l with
    | [⟨t, x⟩] => if h : t = a then some (castD h x) else none
    | _ => none
  | a :: b :: r, l => match l with
    | ⟨t, x⟩ :: l' => if h : t = a then (mkL E (b :: r) l').map (fun y => (castD h x, y)) else none
    | _ => none
def St.slot (s : St E) (d : Nat) : SV E := (lk s.sl d).getD (.c .dead)
def dropG (d : Nat) : SV E → SV E
  | .gl s w v => cond (Nat.beq s d) (.c .dead) (.gl s w (dropG d v))
  | v => v
def St.set (s : St E) (d : Nat) (v : SV E) : St E :=
  { s with sl := ins d v (s.sl.map (fun p => (p.1, dropG d p.2))) }
def St.setO (s : St E) (d : Option Nat) (v : SV E) : St E :=
  match d with
  | none => s
  | some d => s.set d v
def objOf (ob : List (Nat × Nat × Ob E)) (n g : Nat) : Option (Ob E) :=
  match lk ob n with
  | some (h, o) => cond (Nat.beq h g) (some o) none
  | none => none
def St.obj (s : St E) (n g : Nat) : Option (Ob E) := objOf s.ob n g
def St.putOb (s : St E) (n g : Nat) (o : Ob E) : St E := { s with ob := ins n (g, o) s.ob }
def St.gen (s : St E) (n : Nat) : Nat :=
  match lk s.ob n with
  | some (h, _) => h + 1
  | none => 0
def St.fresh (s : St E) (n : Nat) (o : Ob E) : St E := s.putOb n (s.gen n) o
def St.kill (s : St E) (n g : Nat) : St E := s.putOb n g .gone
def winOf {α : Type} (xs : List α) : Option (Nat × Nat) → List α
  | none => xs
  | some (lo, len) => (xs.drop lo).take len
def St.freeze (s : St E) (n g : Nat) : St E :=
  match s.obj n g with
  | some (.tok t xs) => s.putOb n g (.frz t xs)
  | _ => s
def St.look (s : St E) : CV E → CV E
  | .ref n g w => match s.obj n g with
    | some (.tok t xs) => .leaf (.slice t) (winOf xs w)
    | some (.frz t xs) => .leaf (.slice t) (winOf xs w)
    | _ => .dead
  | v => v
def frzList (s : St E) : List (CV E) → St E
  | [] => s
  | .ref n g _ :: r => frzList (s.freeze n g) r
  | _ :: r => frzList s r
inductive Tr (α : Type) where
  | leaf
  | node (k : Nat) (v : α) (l r : Tr α)
def Tr.find {α : Type} : Tr α → Nat → Option α
  | .leaf, _ => none
  | .node k v l r, n => cond (Nat.beq n k) (some v) (cond (Nat.ble n k) (l.find n) (r.find n))
inductive TK where
  | int (k : IntKind)
  | bool
  | str
  | slice (e : TypeId) (t : Ty)
  | struct (fs : List (Nat × TypeId))
  | arr (n : Nat) (e : TypeId) (size : Nat)
  | other
structure TI where
  ty : Ty
  agg : Bool
  size : Nat
  bytes : Nat
  kind : TK
  zero : List Value
  flat : Bool
inductive PM where
  | val (t : Ty)
  | fn
  | ro (t : Ty)
  | rw (cs : List (Ty × Bool))
  | own (t : Ty)
  | take (t : Ty)
structure Sig where
  ps : List PM
  rs : List (Bool × List (Ty × Bool))
inductive Loc where
  | slot (n : Nat)
  | cell (b i : Nat)
inductive Hint where
  | own (l : Loc) (nm : Nat) (t : Ty)
  | imm (l : Loc) (t : Ty)
  | fnv (l : Loc)
  | keep (slots obs : List Nat)
inductive Arg (E : Env) where
  | val (t : Ty) (x : den E.Γ t)
  | fn (f : FuncId) (caps : List (Dt E))
  | ro (t : Ty) (x : den E.Γ t)
  | rw (cs : List (Ty × Bool)) (x : den E.Γ (tyL (cs.map (·.1))))
  | own (t : Ty) (xs : List (den E.Γ t))
  | take (t : Ty) (xs : List (den E.Γ t))
structure Mach (E : Env) where
  fns : Tr Func
  tys : Tr TI
  sigs : Tr Sig
  hints : Tr (Tr (List Hint))
  ext : Tr (List (Arg E) → Res E)
variable (M : Mach E)
def cellOf (E : Env) : Value → CV E
  | .int k n => .leaf (.int k) (n : Int)
  | .bool b => .leaf .bool b
  | .string s => .leaf .str s
  | .slice none 0 0 => .nilS
  | .pointer none => .nilP
  | _ => .dead
def valOf (E : Env) : Value → SV E
  | .agg cs => .agg (cs.toList.map (cellOf E))
  | .tuple _ => .c .dead
  | v => .c (cellOf E v)
abbrev Chain := List (Nat × Bool)
def inChain : Chain → Nat → Bool → Bool
  | [], _, _ => false
  | (s, w) :: r, n, b => cond (Nat.beq s n && (w == b)) true (inChain r n b)
def ungl (ch : Chain) : SV E → SV E
  | .gl s w v => cond (inChain ch s w) (ungl ch v) (.c .dead)
  | v => v
def ev (s : St E) (ch : Chain) : Operand → SV E
  | .tmp t => ungl ch (s.slot t)
  | .const v => valOf E v
  | .func f => .c (.fn f [])
  | .global _ => .c .dead
def svCells : SV E → Option (List (CV E))
  | .c .dead => none
  | .c v => some [v]
  | .agg cs => some cs
  | _ => none
def bt (s : ByteArray) (i : Int) : Int := ((s.data.toList.getD i.toNat 0).toNat : Int)
def rd {t : Ty} (xs : List (den E.Γ t)) (i : Int) : den E.Γ t := xs.getD i.toNat (dflt E t)
def inB (i n : Int) : Bool := decide (0 ≤ i) && decide (i < n)
def arith (op : BinOp) (k : IntKind) (x y : Int) : Option (Int × Bool) :=
  match op with
  | .add => some (k.wrap (x + y), true)
  | .sub => some (k.wrap (x - y), true)
  | .mul => some (k.wrap (x * y), true)
  | .quo => some (k.wrap (x.tdiv y), !(decide (y = 0)))
  | .rem => some (x.tmod y, !(decide (y = 0)))
  | _ => none
def bitsI (op : BinOp) (k : IntKind) (x y : Int) : Option Int :=
  match op with
  | .and => some (k.wrap ((BitVec.ofInt k.bits x &&& BitVec.ofInt k.bits y).toNat : Int))
  | .or => some (k.wrap ((BitVec.ofInt k.bits x ||| BitVec.ofInt k.bits y).toNat : Int))
  | .xor => some (k.wrap ((BitVec.ofInt k.bits x ^^^ BitVec.ofInt k.bits y).toNat : Int))
  | .andNot => some (k.wrap ((BitVec.ofInt k.bits x &&& ~~~BitVec.ofInt k.bits y).toNat : Int))
  | _ => none
def shiftI (op : BinOp) (k : IntKind) (x y : Int) : Option Int :=
  match op with
  | .shl => some (k.wrap (x * 2 ^ (min y.toNat k.bits)))
  | .shr => some (x.fdiv (2 ^ (min y.toNat k.bits)))
  | _ => none
def compar (op : BinOp) (x y : Int) : Option Bool :=
  match op with
  | .eql => some (decide (x = y))
  | .neq => some (!(decide (x = y)))
  | .lss => some (decide (x < y))
  | .leq => some (decide (x ≤ y))
  | .gtr => some (decide (y < x))
  | .geq => some (decide (y ≤ x))
  | _ => none
def beqS (x y : ByteArray) : Bool := x.data.toList == y.data.toList
def appS (x y : ByteArray) : ByteArray := x ++ y
def eqCell : CV E → CV E → Option Bool
  | .leaf (.int j) x, .leaf (.int k) y => if j = k then some (decide ((x : Int) = y)) else none
  | .leaf .bool x, .leaf .bool y => some ((x : Bool) == y)
  | .leaf .str x, .leaf .str y => some (beqS x y)
  | _, _ => none
def eqCells : List (CV E) → List (CV E) → Option Bool
  | [], [] => some true
  | [x], [y] => eqCell x y
  | x :: xs, y :: ys => match eqCell x y, eqCells xs ys with
    | some a, some b => some (a && b)
    | _, _ => none
  | _, _ => none
def binop (op : BinOp) (x y : CV E) : Option (CV E × Bool) :=
  match x, y with
  | .leaf (.int j) (a : Int), .leaf (.int k) (b : Int) =>
    match shiftI op j a b with
    | some r => some (.leaf (.int j) r, decide (0 ≤ b))
    | none =>
      if j = k then
        match arith op j a b with
        | some (r, c) => some (.leaf (.int j) r, c)
        | none => match bitsI op j a b with
          | some r => some (.leaf (.int j) r, true)
          | none => match compar op a b with
            | some r => some (.leaf .bool r, true)
            | none => none
      else none
  | .leaf .str (a : ByteArray), .leaf .str (b : ByteArray) =>
    match op with
    | .add => some (.leaf .str (appS a b), decide (a.size + b.size ≤ 9223372036854775807))
    | .eql => some (.leaf .bool (beqS a b), true)
    | .neq => some (.leaf .bool (!(beqS a b)), true)
    | _ => none
  | .leaf .bool (a : Bool), .leaf .bool (b : Bool) =>
    match op with
    | .eql => some (.leaf .bool (a == b), true)
    | .neq => some (.leaf .bool (!(a == b)), true)
    | _ => none
  | .nilS, .nilS =>
    match op with
    | .eql => some (.leaf .bool true, true)
    | .neq => some (.leaf .bool false, true)
    | _ => none
  | _, _ => none
def unop (op : UnOp) (x : CV E) : Option (CV E) :=
  match op, x with
  | .not, .leaf .bool (b : Bool) => some (.leaf .bool (!b))
  | .neg, .leaf (.int k) (n : Int) => some (.leaf (.int k) (k.wrap (0 - n)))
  | _, _ => none
abbrev Simple (E : Env) := Option (SV E × Bool × St E)
def ok1 (v : CV E) (s : St E) : Simple E := some (.c v, true, s)
def mkSV (agg : Bool) (cs : List (CV E)) : Option (SV E) :=
  cond agg (some (.agg cs)) (match cs with | [v] => some (.c v) | _ => none)
def behind (s : St E) : CV E → Option (List (CV E) × Nat)
  | .ptr n g off => match s.obj n g with
    | some (.box cs) => some (cs, off)
    | _ => none
  | .ro t x off => some (exp E t x, off)
  | .optr n g i off => match s.obj n g with
    | some (.tok t xs) => some (exp E t (xs.getD i (dflt E t)), off)
    | _ => none
  | _ => none
def takeAt {α : Type} (cs : List α) (off size : Nat) : Option (List α) :=
  let r := (cs.drop off).take size
  cond (Nat.beq r.length size) (some r) none
def load (ti : TI) (s : St E) (p : CV E) : Option (SV E) :=
  match behind s p with
  | some (cs, off) => match takeAt cs off ti.size with
    | some r => mkSV ti.agg r
    | none => none
  | none => none
def splice {α : Type} (cs : List α) (off : Nat) (new : List α) : List α := cs.take off ++ new ++ cs.drop (off + new.length)
def alive : CV E → Bool
  | .dead => false
  | _ => true
def store (ti : TI) (s : St E) (p : CV E) (v : List (CV E)) : Option (St E) :=
  if v.length = ti.size ∧ v.all alive = true then
    match p with
    | .ptr n g off => match s.obj n g with
      | some (.box cs) => if off + v.length ≤ cs.length then some (s.putOb n g (.box (splice cs off v))) else none
      | _ => none
    | .optr n g i off =>
      let s' := frzList s v
      match s'.obj n g with
      | some (.tok t xs) =>
        match pack E t (splice (exp E t (xs.getD i (dflt E t))) off (v.map s.look)) with
        | some x => if off + v.length ≤ nc E t ∧ v.length ≠ 0 then some (s'.putOb n g (.tok t (xs.set i x))) else none
        | none => none
      | _ => none
    | _ => none
  else none
def points (s : St E) : CV E → Bool
  | .ptr n g _ => match s.obj n g with
    | some (.box _) => true
    | _ => false
  | .ro _ _ _ => true
  | .optr n g _ _ => match s.obj n g with
    | some (.tok _ _) => true
    | _ => false
  | _ => false
def advance (off : Nat) : CV E → Option (CV E)
  | .ptr n g o => some (.ptr n g (o + off))
  | .ro t x o => some (.ro t x (o + off))
  | .optr n g i o => some (.optr n g i (o + off))
  | _ => none
def indexAddr (s : St E) (te : Ty) (x i : CV E) : Option (CV E × Bool) :=
  match i with
  | .leaf (.int _) (i : Int) =>
    match x with
    | .leaf (.slice t) (xs : List (den E.Γ t)) => if t = te then some (.ro t (rd xs i) 0, inB i xs.length) else none
    | .leaf (.opt t) (o : Option (List (den E.Γ t))) => if t = te then some (.ro t (rd (o.getD []) i) 0, inB i (o.getD []).length) else none
    | .ref n g w => match s.obj n g with
      | some (.tok t xs) => if t = te then match w with
        | none => some (.optr n g i.toNat 0, inB i xs.length)
        | some (lo, len) => some (.optr n g (lo + i.toNat) 0, inB i len)
        else none
      | some (.frz t xs) => if t = te then some (.ro t (rd (winOf xs w) i) 0, inB i (winOf xs w).length) else none
      | _ => none
    | _ => none
  | _ => none
def bound (s : St E) (ch : Chain) (d : Int) : Option Operand → Option Int
  | none => some d
  | some x => match ev s ch x with
    | .c (.leaf (.int _) (i : Int)) => some i
    | _ => none
def sub {α : Type} (xs : List α) (l h : Int) : List α := (xs.take h.toNat).drop l.toNat
def subS (s : ByteArray) (l h : Int) : ByteArray := s.extract l.toNat h.toNat
def inS (l h n : Int) : Bool := decide (0 ≤ l) && (decide (l ≤ h) && decide (h ≤ n))
def sliceOf (s : St E) (ch : Chain) (te : Ty) (x : CV E) (lo hi : Option Operand) : Option (CV E × Bool) :=
  match x with
  | .leaf (.slice t) (xs : List (den E.Γ t)) => if t = te then match bound s ch 0 lo, bound s ch xs.length hi with
    | some l, some h => some (.leaf (.slice t) (sub xs l h), inS l h xs.length)
    | _, _ => none
    else none
  | .nilS => match bound s ch 0 lo, bound s ch 0 hi with
    | some l, some h => some (.nilS, inS l h 0)
    | _, _ => none
  | .ref n g w => match s.obj n g with
    | some (.tok t xs) => if t = te then match w with
      | none => match bound s ch 0 lo, bound s ch xs.length hi with
        | some l, some h => some (.ref n g (some (l.toNat, (h - l).toNat)), inS l h xs.length)
        | _, _ => none
      | some (o, len) => match bound s ch 0 lo, bound s ch len hi with
        | some l, some h => some (.ref n g (some (o + l.toNat, (h - l).toNat)), inS l h len)
        | _, _ => none
      else none
    | some (.frz t xs) => if t = te then match bound s ch 0 lo, bound s ch (winOf xs w).length hi with
      | some l, some h => some (.leaf (.slice t) (sub (winOf xs w) l h), inS l h (winOf xs w).length)
      | _, _ => none
      else none
    | _ => none
  | _ => none
def sliceStr (s : St E) (ch : Chain) (x : CV E) (lo hi : Option Operand) : Option (CV E × Bool) :=
  match x with
  | .leaf .str (b : ByteArray) => match bound s ch 0 lo, bound s ch b.size hi with
    | some l, some h => some (.leaf .str (subS b l h), inS l h b.size)
    | _, _ => none
  | _ => none
def lenOf (s : St E) : CV E → Option Int
  | .leaf .str (b : ByteArray) => some b.size
  | .leaf (.slice t) (xs : List (den E.Γ t)) => some xs.length
  | .leaf (.opt t) (o : Option (List (den E.Γ t))) => some (o.getD []).length
  | .nilS => some 0
  | .ref n g w => match s.obj n g with
    | some (.tok _ xs) => match w with
      | none => some xs.length
      | some (_, len) => some len
    | some (.frz _ xs) => some (winOf xs w).length
    | _ => none
  | _ => none
def content (s : St E) (t : Ty) (v : CV E) : Option (List (den E.Γ t)) := leafOf (.slice t) (s.look v)
def fillS (E : Env) (M : Mach E) (fs : List (Nat × TypeId)) (s : St E) (ch : Chain) : List (CV E) → List (Nat × Operand) → Option (List (CV E))
  | cs, [] => some cs
  | cs, (i, x) :: r => match fs[i]? with
    | some (off, ft) => match M.tys.find ft, svCells (ev s ch x) with
      | some ti, some v => if v.length = ti.size ∧ off + v.length ≤ cs.length then fillS E M fs s ch (splice cs off v) r else none
      | _, _ => none
    | none => none
def arrFs (n : Nat) (e : TypeId) (size : Nat) : List (Nat × TypeId) := (List.range n).map (fun i => (i * size, e))
def elems (E : Env) (t : Ty) (s : St E) (ch : Chain) : List (den E.Γ t) → List (Nat × Operand) → Option (List (den E.Γ t))
  | xs, [] => some xs
  | xs, (i, x) :: r => match svCells (ev s ch x) with
    | some v => match pack E t (v.map s.look) with
      | some y => if i < xs.length then elems E t s ch (xs.set i y) r else none
      | none => none
    | none => none
def frzOps (s0 : St E) (ch : Chain) : St E → List (Nat × Operand) → St E
  | s, [] => s
  | s, (_, x) :: r => match svCells (ev s0 ch x) with
    | some v => frzOps s0 ch (frzList s v) r
    | none => frzOps s0 ch s r
def roomy (n bytes : Nat) : Bool := decide (n * bytes ≤ 70368744177664)
def otherObj (n : Nat) (g : Nat) : CV E → Bool
  | .ref m h _ => !(Nat.beq m n && Nat.beq h g)
  | _ => true
def sliceTy (M : Mach E) (T : TypeId) : Option (TypeId × Ty × TI) :=
  match M.tys.find T with
  | some ti => match ti.kind with
    | .slice e t => match M.tys.find e with
      | some te => if t = .unit then none else cond (Nat.beq te.bytes 0) none (some (e, t, te))
      | none => none
    | _ => none
  | none => none
def appendOp (M : Mach E) (s : St E) (d : Nat) (T : TypeId) (x y : CV E) : Simple E :=
  match sliceTy M T with
  | some (_, t, te) => match content s t y with
    | some ys => match x with
      | .nilS => some (.c (.ref d (s.gen d) none), roomy ys.length te.bytes, s.fresh d (.tok t ys))
      | .ref n g w => match s.obj n g, content s t x with
        | some (.tok _ _), some xs =>
          if otherObj n g y then some (.c (.ref d ((s.kill n g).gen d) none), roomy (xs.length + ys.length) te.bytes, (s.kill n g).fresh d (.tok t (xs ++ ys))) else none
        | some (.frz _ _), some xs =>
          if otherObj n g y && w.isNone then some (.c (.ref d ((s.kill n g).gen d) none), roomy (xs.length + ys.length) te.bytes, (s.kill n g).fresh d (.frz t (xs ++ ys))) else none
        | _, _ => none
      | _ => none
    | none => none
  | none => none
def zerosOp (M : Mach E) (s : St E) (d : Nat) (T : TypeId) (x y : CV E) : Simple E :=
  match y, sliceTy M T with
  | .leaf (.int .i64) (n : Int), some (_, t, _) => match appendOp M s d T x (.leaf (.slice t) (List.replicate n.toNat (dflt E t))) with
    | some (v, c, s') => some (v, decide (0 ≤ n) && c, s')
    | none => none
  | _, _ => none
def intTy (M : Mach E) (T : TypeId) : Bool :=
  match M.tys.find T with
  | some ti => match ti.kind with
    | .int _ => true
    | _ => false
  | none => false
def boolTy (M : Mach E) (t : TypeId) : CV E → Bool
  | .leaf .bool _ => match M.tys.find t with
    | some ti => match ti.kind with
      | .bool => true
      | _ => false
    | none => false
  | .nilS => match M.tys.find t with
    | some ti => match ti.kind with
      | .slice _ _ => true
      | _ => false
    | none => false
  | _ => true
def lenTy (M : Mach E) (T : TypeId) (v : CV E) : Bool :=
  match M.tys.find T with
  | some ti => match ti.kind, v with
    | .str, .leaf .str _ => true
    | .slice _ _, .leaf (.slice _) _ => true
    | .slice _ _, .leaf (.opt _) _ => true
    | .slice _ _, .nilS => true
    | .slice _ _, .ref _ _ _ => true
    | _, _ => false
  | none => false
def cellTy : Value → Ty
  | .int k _ => .int k
  | .bool _ => .bool
  | .string _ => .str
  | _ => .unit
def leafTy : CV E → Ty → Bool
  | .leaf t _, u => t == u
  | _, _ => false
def leafTys : List (CV E) → List Ty → Bool
  | [], [] => true
  | c :: cs, t :: ts => leafTy c t && leafTys cs ts
  | _, _ => false
def eqTy (M : Mach E) (t : TypeId) (xs : List (CV E)) : Bool :=
  match M.tys.find t with
  | some ti => ti.flat && leafTys xs (ti.zero.map cellTy)
  | none => false
def simple (M : Mach E) (s : St E) (ch : Chain) (grd : Bool) (d : Nat) (o : Op) : Simple E :=
  match o with
  | .move x | .assign x => match ev s ch x with
    | .gl _ _ _ => none
    | v => some (v, true, s)
  | .pick (.tmp c) a b => match ungl ch (s.slot c), ev s ((c, true) :: ch) a, ev s ((c, false) :: ch) b with
    | .c (.leaf .bool (q : Bool)), .c (.leaf .bool (x : Bool)), .c (.leaf .bool (y : Bool)) => some (.c (.leaf .bool (cond q x y)), true, s)
    | _, _, _ => none
  | .alloc t => if grd then none else match M.tys.find t with
    | some ti => some (.c (.ptr d (s.gen d) 0), true, s.fresh d (.box (ti.zero.map (cellOf E))))
    | none => none
  | .box t x => if grd then none else match M.tys.find t, svCells (ev s ch x) with
    | some ti, some cs => if cs.length = ti.size then some (.c (.ptr d (s.gen d) 0), true, s.fresh d (.box cs)) else none
    | _, _ => none
  | .build t parts => match M.tys.find t with
    | some ti => match ti.kind with
      | .struct fs => match fillS E M fs s ch (ti.zero.map (cellOf E)) parts.toList with
        | some cs => some (.agg cs, true, s)
        | none => none
      | .arr n e size => match fillS E M (arrFs n e size) s ch (ti.zero.map (cellOf E)) parts.toList with
        | some cs => some (.agg cs, true, s)
        | none => none
      | _ => none
    | none => none
  | .buildSlice t len parts => match sliceTy M t with
    | some (_, te, tie) => if len * tie.size ≤ 4096 then
      match elems E te s ch (List.replicate len (dflt E te)) parts.toList with
      | some xs =>
        let s' := frzOps s ch s parts.toList
        if grd then some (.c (.leaf (.slice te) xs), true, s') else some (.c (.ref d (s'.gen d) none), true, s'.fresh d (.tok te xs))
      | none => none
      else none
    | none => none
  | .load t x => match M.tys.find t, ev s ch x with
    | some ti, .c p => match load ti s p with
      | some v => some (v, true, s)
      | none => none
    | _, _ => none
  | .store t p x => if grd then none else match M.tys.find t, ev s ch p, svCells (ev s ch x) with
    | some ti, .c p, some v => match store ti s p v with
      | some s' => some (.c .dead, true, s')
      | none => none
    | _, _, _ => none
  | .nilCheck x => match ev s ch x with
    | .c p => if points s p then ok1 p s else none
    | _ => none
  | .binOp op t x y _ => match ev s ch x, ev s ch y with
    | .c x, .c y => if boolTy M t x then match binop op x y with
      | some (v, c) => some (.c v, c, s)
      | none => none
      else none
    | .agg xs, .agg ys => if eqTy M t xs then match op, eqCells xs ys with
      | .eql, some b => some (.c (.leaf .bool b), true, s)
      | .neq, some b => some (.c (.leaf .bool (!b)), true, s)
      | _, _ => none
      else none
    | _, _ => none
  | .unOp op _ x => match ev s ch x with
    | .c x => match unop op x with
      | some v => some (.c v, true, s)
      | none => none
    | _ => none
  | .convert a b x => match M.tys.find a, M.tys.find b, ev s ch x with
    | some _, some tb, .c (.leaf (.int j) (n : Int)) => match tb.kind with
      | .int k => some (.c (.leaf (.int k) (k.wrap n)), true, s)
      | _ => none
    | some _, some tb, .c (.leaf .str (b : ByteArray)) => match tb.kind with
      | .str => some (.c (.leaf .str b), true, s)
      | _ => none
    | _, _, _ => none
  | .makeFunc (.func f) first captured => if first.size = 0 then
      match captured.toList.mapM (fun x => match ev s ch x with
        | .c (.ptr n g 0) => some (Cap.box n g)
        | .c (.ro t x 0) => some (Cap.ro t x)
        | _ => none) with
      | some caps => some (.c (.fn f caps), true, s)
      | none => none
    else none
  | .makeInterface t _ => match M.tys.find t with
    | some ti => match ti.kind with
      | .other => none
      | _ => some (.c .dead, true, s)
    | none => none
  | .makeSlice t len cap => if grd then none else match sliceTy M t, ev s ch len, ev s ch cap with
    | some (_, te, tie), .c (.leaf (.int .i64) (n : Int)), .c (.leaf (.int .i64) (m : Int)) =>
      some (.c (.ref d (s.gen d) none), inS 0 n m && roomy m.toNat tie.bytes, s.fresh d (.tok te (List.replicate n.toNat (dflt E te))))
    | _, _, _ => none
  | .slice t x lo hi none => match ev s ch x with
    | .c x => match sliceTy M t with
      | some (_, te, _) => match sliceOf s ch te x lo hi with
        | some (v, c) => some (.c v, c, s)
        | none => none
      | none => match M.tys.find t with
        | some ti => match ti.kind with
          | .str => match sliceStr s ch x lo hi with
            | some (v, c) => some (.c v, c, s)
            | none => none
          | _ => none
        | none => none
    | _ => none
  | .fieldAddr t x f => match M.tys.find t, ev s ch x with
    | some ti, .c p => match ti.kind with
      | .struct fs => match fs[f]? with
        | some (off, _) => if points s p then match advance off p with
          | some q => some (.c q, true, s)
          | none => none
          else none
        | none => none
      | _ => none
    | _, _ => none
  | .field t x f => match M.tys.find t, ev s ch x with
    | some ti, .agg cs => match ti.kind with
      | .struct fs => match fs[f]? with
        | some (off, ft) => match M.tys.find ft with
          | some tf => match takeAt cs off tf.size with
            | some r => match mkSV tf.agg r with
              | some v => some (v, true, s)
              | none => none
            | none => none
          | none => none
        | none => none
      | _ => none
    | _, _ => none
  | .indexAddr t x i => match sliceTy M t with
    | some (_, te, _) => match ev s ch x, ev s ch i with
      | .c x, .c i => match indexAddr s te x i with
        | some (v, c) => some (.c v, c, s)
        | none => none
      | _, _ => none
    | none => match M.tys.find t, ev s ch x, ev s ch i with
      | some ti, .c p, .c (.leaf (.int _) (i : Int)) => match ti.kind with
        | .arr n _ size => if points s p then match advance (i.toNat * size) p with
          | some q => some (.c q, inB i n, s)
          | none => none
          else none
        | _ => none
      | _, _, _ => none
  | .index t x i => match M.tys.find t with
    | some ti => match ti.kind with
      | .str => match ev s ch x, ev s ch i with
        | .c (.leaf .str (b : ByteArray)), .c (.leaf (.int _) (i : Int)) => some (.c (.leaf (.int .u8) (bt b i)), inB i b.size, s)
        | _, _ => none
      | .arr n e size => match ev s ch x, ev s ch i, M.tys.find e with
        | .agg cs, .c (.leaf (.int _) (i : Int)), some te => match takeAt cs (i.toNat * size) size with
          | some r => match mkSV te.agg r with
            | some v => some (v, inB i n, s)
            | none => none
          | none => none
        | _, _, _ => none
      | _ => none
    | none => none
  | .extract x i => match ev s ch x with
    | .tup vs => match vs[i]? with
      | some (a, cs) => match mkSV a cs with
        | some v => some (v, true, s)
        | none => none
      | none => none
    | _ => none
  | .call c => match c.callee with
    | .builtin .len => match c.args.toList, c.argTypes.toList with
      | [x], [T] => match ev s ch x with
        | .c v => if lenTy M T v then match lenOf s v with
          | some n => some (.c (.leaf (.int .i64) n), true, s)
          | none => none
          else none
        | _ => none
      | _, _ => none
    | .builtin .append => if grd then none else match c.args.toList, c.argTypes.toList with
      | [x, y], [T, T'] => match ev s ch x, ev s ch y with
        | .c x, .c y => if (sliceTy M T').isSome then appendOp M s d T x y else if intTy M T' then zerosOp M s d T x y else none
        | _, _ => none
      | _, _ => none
    | .builtin .copy => if grd then none else match c.args.toList, c.argTypes.toList with
      | [x, y], T :: _ => match ev s ch x, ev s ch y, sliceTy M T with
        | .c (.ref n g w), .c y, some (_, te, _) => match s.obj n g with
          | some (.tok t xs) => if t = te then match content s t y with
            | some ys =>
              let lo := match w with | none => 0 | some (lo, _) => lo
              let len := match w with | none => xs.length | some (_, len) => len
              let m := min ys.length len
              some (.c (.leaf (.int .i64) (m : Int)), true, s.putOb n g (.tok t (splice xs lo (ys.take m))))
            | none => none
            else none
          | _ => none
        | _, _, _ => none
      | _, _ => none
    | .builtin .min => match c.args.toList with
      | [x, y] => match ev s ch x, ev s ch y with
        | .c (.leaf (.int .i64) (a : Int)), .c (.leaf (.int .i64) (b : Int)) => some (.c (.leaf (.int .i64) (cond (decide (b < a)) b a)), true, s)
        | _, _ => none
      | _ => none
    | .builtin .max => match c.args.toList with
      | [x, y] => match ev s ch x, ev s ch y with
        | .c (.leaf (.int .i64) (a : Int)), .c (.leaf (.int .i64) (b : Int)) => some (.c (.leaf (.int .i64) (cond (decide (a < b)) b a)), true, s)
        | _, _ => none
      | _ => none
    | _ => none
  | _ => none
def res (t : Ty) : Res E → Option (den E.Γ t)
  | some ⟨t', x⟩ => if h : t' = t then some (castD h x) else none
  | none => none
def capsOf (s : St E) : List PM → List (Cap E) → Option (List (Dt E))
  | _, [] => some []
  | [], .ro t x :: r => (capsOf s [] r).map (fun l => ⟨t, x⟩ :: l)
  | .ro _ :: ps, .ro t x :: r => (capsOf s ps r).map (fun l => ⟨t, x⟩ :: l)
  | .ro t :: ps, .box n g :: r => match s.obj n g with
    | some (.box cs) => match pack E t (cs.map s.look) with
      | some x => (capsOf s ps r).map (fun l => ⟨t, x⟩ :: l)
      | none => none
    | _ => none
  | _, _ => none
def fnArg (M : Mach E) (s : St E) (f : FuncId) (caps : List (Cap E)) : Option (List (Dt E)) :=
  match caps with
  | [] => some []
  | caps => match M.sigs.find f with
    | some sg => capsOf s (sg.ps.drop (sg.ps.length - caps.length)) caps
    | none => capsOf s [] caps
def rwCells (s : St E) : List (Ty × Bool) → List (CV E) → Option (List (Dt E))
  | [], [] => some []
  | (t, _) :: r, v :: vs => match leafOf t (s.look v) with
    | some x => (rwCells s r vs).map (fun l => ⟨t, x⟩ :: l)
    | none => none
  | _, _ => none
def ownNames : List (Ty × Bool) → List (CV E) → Option (List (Nat × Nat))
  | [], [] => some []
  | (.slice _, true) :: r, .ref n g _ :: vs => (ownNames r vs).map (fun l => (n, g) :: l)
  | (.slice _, true) :: r, .nilS :: vs => ownNames r vs
  | (_, false) :: r, _ :: vs => ownNames r vs
  | _, _ => none
def isTok (s : St E) (n g : Nat) : Bool :=
  match s.obj n g with
  | some (.tok _ _) => true
  | _ => false
def immRefs : List (Ty × Bool) → List (CV E) → List (CV E)
  | (_, false) :: r, v :: vs => v :: immRefs r vs
  | (_, true) :: r, _ :: vs => immRefs r vs
  | _, _ => []
def nodup : List Nat → Bool
  | [] => true
  | n :: r => !(r.any (Nat.beq n)) && nodup r
def killAll (s : St E) : List (Nat × Nat) → St E
  | [] => s
  | (n, g) :: r => killAll (s.kill n g) r
inductive Back (E : Env) where
  | box (n g : Nat) (cs : List (Ty × Bool))
  | own (n g : Nat) (t : Ty) (xs : List (den E.Γ t))
def oneAgg : SV E → Bool
  | .agg [_] => true
  | _ => false
def anyTok (s : St E) (cs : List (CV E)) : Bool := cs.any (fun c => match c with
  | .ref n g _ => isTok s n g
  | _ => false)
def capRefs (s : St E) (caps : List (Cap E)) : Bool := caps.any (fun c => match c with
  | .box n g => match s.obj n g with
    | some (.box cs) => anyTok s cs
    | _ => false
  | .ro _ _ => false)
def valCells : List PM → List (SV E) → List (CV E)
  | .val _ :: ps, v :: vs => (svCells v).getD [] ++ valCells ps vs
  | _ :: ps, _ :: vs => valCells ps vs
  | _, _ => []
def rwImm (s : St E) : List PM → List (SV E) → List (CV E)
  | .rw cs :: ps, .c (.ptr n g 0) :: vs => (match s.obj n g with
    | some (.box xs) => immRefs cs xs
    | _ => []) ++ rwImm s ps vs
  | _ :: ps, _ :: vs => rwImm s ps vs
  | _, _ => []
def hand (s : St E) (p : PM) (v : SV E) : Option (Option (Arg E) × St E × List (Back E)) :=
  match p with
  | .val _ => some (none, s, [])
  | .fn => some (none, s, [])
  | .ro _ => some (none, s, [])
  | .rw cs => match v with
    | .c (.ptr n g 0) => match s.obj n g with
      | some (.box vs) =>
        match ownNames cs vs with
        | some l => if nodup (l.map (·.1)) && (l.all (fun p => isTok s p.1 p.2) && (Nat.ble 1 vs.length && Nat.ble vs.length 60)) then
          match rwCells s cs vs with
          | some ds => match mkL E (cs.map (·.1)) ds with
            | some x => some (some (.rw cs x), (killAll s l).putOb n g (.box (vs.map (fun _ => .dead))), [.box n g cs])
            | none => none
          | none => none
          else none
        | none => none
      | _ => none
    | _ => none
  | .own t => match v with
    | .c (.ref n g none) => match s.obj n g with
      | some (.tok t' xs) => if t' = t then some (some (.own t' xs), s.kill n g, [.own n g t' xs]) else none
      | _ => none
    | _ => none
  | .take t => match v with
    | .c (.ref n g none) => match s.obj n g with
      | some (.tok t' xs) => if t' = t then some (some (.take t' xs), s.kill n g, []) else none
      | _ => none
    | .c .nilS => some (some (.take t []), s, [])
    | _ => none
def hands : St E → List PM → List (SV E) → Option (List (Option (Arg E)) × St E × List (Back E))
  | s, [], [] => some ([], s, [])
  | s, p :: ps, v :: vs => match hand s p v with
    | some (a, s', o) => match hands s' ps vs with
      | some (as, s'', o') => some (a :: as, s'', o ++ o')
      | none => none
    | none => none
  | _, _, _ => none
def readArg (frz : Bool) (M : Mach E) (s : St E) (p : PM) (v : SV E) : Option (Arg E) :=
  match p with
  | .val t => if oneAgg v then none else match svCells v with
    | some cs => match pack E t (cs.map s.look) with
      | some x => some (.val t x)
      | none => none
    | none => none
  | .fn => match v with
    | .c (.fn f caps) => if (frz && capRefs s caps) || !(E.one f) then none else match fnArg M s f caps with
      | some l => some (.fn f l)
      | none => none
    | .c (.fnd f l) => some (.fn f l)
    | _ => none
  | .ro t => match v with
    | .c (.ptr n g 0) => match s.obj n g with
      | some (.box cs) => if frz && anyTok s cs then none else match pack E t (cs.map s.look) with
        | some x => some (.ro t x)
        | none => none
      | _ => none
    | .c (.ro t' x 0) => if t' = t then some (.ro t' x) else none
    | _ => none
  | _ => none
def reads (frz : Bool) (M : Mach E) (s : St E) : List PM → List (SV E) → List (Option (Arg E)) → Option (List (Arg E))
  | [], [], [] => some []
  | p :: ps, v :: vs, a :: as => match (match a with
      | some a => some a
      | none => readArg frz M s p v) with
    | some b => match reads frz M s ps vs as with
      | some bs => some (b :: bs)
      | none => none
    | none => none
  | _, _, _ => none
def mkArgs (frz : Bool) (s : St E) (ps : List PM) (vs : List (SV E)) : Option (List (Arg E) × St E × List (Back E)) :=
  match hands (frzList s ((cond frz (valCells ps vs) []) ++ rwImm s ps vs)) ps vs with
  | some (hs, s', o) => match reads frz M s' ps vs hs with
    | some as => some (as, s', o)
    | none => none
  | none => none
def unRes : Nat → St E → List (Ty × Bool) → List (Dt E) → Option (List (CV E) × Nat × St E × List (Dt E))
  | b, s, [], ds => some ([], b, s, ds)
  | b, s, (_, false) :: r, ⟨t, x⟩ :: ds => match unRes b s r ds with
    | some (cs, b', s', ds') => some (exp E t x ++ cs, b', s', ds')
    | none => none
  | b, s, (_, true) :: r, ⟨.slice t, x⟩ :: ds => match unRes (b + 1) (s.fresh b (.tok t x)) r ds with
    | some (cs, b', s', ds') => some (.ref b (s.gen b) none :: cs, b', s', ds')
    | none => none
  | _, _, _, _ => none
def unResults : Nat → St E → List (Bool × List (Ty × Bool)) → List (Dt E) → Option (List (Bool × List (CV E)) × Nat × St E × List (Dt E))
  | b, s, [], ds => some ([], b, s, ds)
  | b, s, (a, ps) :: r, ds => match unRes b s ps ds with
    | some (cs, b', s', ds') => match unResults b' s' r ds' with
      | some (l, b'', s'', ds'') => some ((a, cs) :: l, b'', s'', ds'')
      | none => none
    | none => none
def unOwns : St E → List (Back E) → List (Dt E) → Option (Bool × St E)
  | s, [], _ => some (true, s)
  | s, .box _ _ cs :: r, ds => unOwns s r (ds.drop cs.length)
  | s, .own n g t xs :: r, ⟨.slice t', x⟩ :: ds => if t' = t then match unOwns (s.putOb n g (.tok t' x)) r ds with
      | some (c, s') => some (c && decide (List.length (α := den E.Γ t') x = xs.length), s')
      | none => none
    else none
  | _, _, _ => none
def unOuts : Nat → St E → List (Back E) → List (Dt E) → Option (St E)
  | _, s, [], [] => some s
  | b, s, .box n g cs :: r, ds => match unRes b s cs ds with
    | some (vs, b', s', ds') => match s'.obj n g with
      | some (.box _) => unOuts b' (s'.putOb n g (.box vs)) r ds'
      | _ => none
    | none => none
  | b, s, .own _ _ _ _ :: r, _ :: ds => unOuts b s r ds
  | _, _, _, _ => none
def piecesTy (ps : List (Ty × Bool)) : List Ty := ps.map (·.1)
def resPieces (rs : List (Bool × List (Ty × Bool))) : List (Ty × Bool) := rs.flatMap (·.2)
def outPieces (o : List (Back E)) : List (Ty × Bool) := o.flatMap (fun b => match b with
  | .box _ _ cs => cs
  | .own _ _ t _ => [(.slice t, true)])
def elemTy : Ty → Ty
  | .slice t => t
  | t => t
def mayKeep (ps : List (Ty × Bool)) : Bool := ps.any (fun p => hasSlice (cond p.2 (elemTy p.1) p.1))
def outKeep (ps : List PM) : Bool := ps.any (fun p => match p with
  | .rw cs => mayKeep cs
  | .own t => hasSlice t
  | _ => false)
def resSV : List (Bool × List (CV E)) → Option (SV E)
  | [(a, cs)] => mkSV a cs
  | l => some (.tup l)
def nameBase (d : Nat) : Nat := 1000000 + 64 * d
def afterCall (d : Nat) (s : St E) (rs : List (Bool × List (Ty × Bool))) (outs : List (Back E)) (ds : List (Dt E))
    (fin : SV E → St E → Res E) : Res E :=
  match unOwns s outs (ds.drop (resPieces rs).length) with
  | some (c, s1) => match unResults (nameBase d) s1 rs ds with
    | some (l, b, s', ds') => match unOuts b s' outs ds' with
      | some s'' => match resSV l with
        | some v => cond c (fin v s'') none
        | none => none
      | none => none
    | none => none
  | none => none
def callWith (M : Mach E) (callF : FuncId → List (Arg E) → Res E) (g : Option Bool) (d : Nat) (s : St E) (f : FuncId) (ps : List PM) (more : List (Arg E)) (rs : List (Bool × List (Ty × Bool)))
    (args : List (SV E)) (fin : SV E → St E → Res E) : Res E :=
  match mkArgs M (mayKeep (resPieces rs) || outKeep ps) s ps args with
  | some (as, s', outs) =>
    let ts := piecesTy (resPieces rs ++ outPieces outs)
    match g with
    | none => (res (tyL ts) (callF f (as ++ more))).bind fun r => afterCall d s' rs outs (unL E ts r) fin
    | some b => match outs with
      | [] => (cond b (res (tyL ts) (callF f (as ++ more))) (some (dflt E (tyL ts)))).bind fun r => afterCall d s' (rs.map (fun p => (p.1, p.2.map (fun q => (q.1, false))))) [] (unL E ts r) fin
      | _ => none
  | none => none
def capArgs (l : List (Dt E)) : List (Arg E) := l.map (fun p => .ro p.1 p.2)
def isValP : PM → Bool
  | .val _ => true
  | _ => false
def manyOf (sg : Option Sig) (n : Nat) : Option (List PM × List (Bool × List (Ty × Bool))) :=
  match sg with
  | some sg => match sg.rs with
    | [_] => none
    | rs => let ps := sg.ps.take (sg.ps.length - n); cond (ps.all isValP) (some (ps, rs)) none
  | none => none
def callOp (M : Mach E) (callF : FuncId → List (Arg E) → Res E) (s : St E) (ch : Chain) (g : Option Bool) (d : Nat) (ty : TypeId) (c : Call) (fin : SV E → St E → Res E) : Res E :=
  match c.callee with
  | .value f => match ev s ch f with
    | .c (.fn f caps) =>
      match caps, f, M.sigs.find f with
      | [], f, some sg => callWith M callF g d s f sg.ps [] sg.rs (c.args.toList.map (ev s ch)) fin
      | caps, f, sg => match fnArg M s f caps with
        | some l => match manyOf sg caps.length with
          | some (ps, rs) => if mayKeep (resPieces rs) && capRefs s caps then none else callWith M callF g d s f ps (capArgs l) rs (c.args.toList.map (ev s ch)) fin
          | none => match M.tys.find ty, c.argTypes.toList.mapM (fun t => (M.tys.find t).map (fun ti => PM.val ti.ty)) with
          | some ti, some ps => if !(E.one f) || (mayKeep [(ti.ty, false)] && capRefs s caps) || ti.agg == Nat.beq (nc E ti.ty) 1 then none else callWith M callF g d s f ps (capArgs l) [(ti.agg, [(ti.ty, false)])] (c.args.toList.map (ev s ch)) fin
          | _, _ => none
        | none => none
    | .c (.fnd f l) => match M.tys.find ty, c.argTypes.toList.mapM (fun t => (M.tys.find t).map (fun ti => PM.val ti.ty)) with
      | some ti, some ps => if ti.agg == Nat.beq (nc E ti.ty) 1 then none else callWith M callF g d s f ps (capArgs l) [(ti.agg, [(ti.ty, false)])] (c.args.toList.map (ev s ch)) fin
      | _, _ => none
    | _ => none
  | _ => none
def gval : Nat → St E → Nat → Bool → Option Bool
  | 0, _, _, _ => none
  | k + 1, s, d, w => match s.slot d with
    | .c (.leaf .bool (b : Bool)) => some (cond w b (!b))
    | .gl d' w' (.c (.leaf .bool (b : Bool))) => match gval k s d' w' with
      | some g => some (g && cond w b (!b))
      | none => none
    | _ => none
def gchain : Nat → St E → Nat → Bool → Chain
  | 0, _, _, _ => []
  | k + 1, s, d, w => match s.slot d with
    | .gl d' w' _ => (d, w) :: gchain k s d' w'
    | _ => [(d, w)]
def isCall : Op → Bool
  | .call c => match c.callee with
    | .builtin _ => false
    | _ => true
  | _ => false
def fits (n : Nat) : Option Nat → Bool
  | none => true
  | some d => Nat.ble (d + 1) n
def nilCmp (M : Mach E) (s : St E) (o : Op) : Option (Option Nat × Bool) :=
  match o with
  | .binOp op t x (.const (.slice none 0 0)) _ =>
    if !(boolTy M t (.nilS : CV E)) then none else
    match op, ev s [] x with
    | .eql, .c (.leaf (.slice _) (xs : List (den E.Γ _))) => some (some xs.length, true)
    | .neq, .c (.leaf (.slice _) (xs : List (den E.Γ _))) => some (some xs.length, false)
    | .eql, .c (.leaf (.opt _) (o : Option (List (den E.Γ _)))) => some (o.map List.length, true)
    | .neq, .c (.leaf (.opt _) (o : Option (List (den E.Γ _)))) => some (o.map List.length, false)
    | .eql, .c (.ref n g w) => match s.look (.ref n g w) with
      | .leaf (.slice _) (xs : List (den E.Γ _)) => some (some xs.length, true)
      | _ => none
    | .neq, .c (.ref n g w) => match s.look (.ref n g w) with
      | .leaf (.slice _) (xs : List (den E.Γ _)) => some (some xs.length, false)
      | _ => none
    | _, _ => none
  | _ => none
def nilBr (E : Env) (n : Option Nat) (no yes : Res E) : Res E :=
  match n with
  | none => yes
  | some n => cond (decide (0 < n)) no (meet E yes no)
def stepOp (M : Mach E) (callF : FuncId → List (Arg E) → Res E) (ops : Array Oper) (o : Oper) (s : St E) (k : St E → Res E) : Res E :=
  if fits s.n o.dst then
  match o.guard with
  | none =>
    if isCall o.op then
      match o.op with
      | .call c => callOp M callF s [] none (o.dst.getD s.n) o.type c (fun v s' => k (s'.setO o.dst v))
      | _ => none
    else match nilCmp M s o.op with
    | some (n, b) => nilBr E n (k (s.setO o.dst (.c (.leaf .bool (!b))))) (k (s.setO o.dst (.c (.leaf .bool b))))
    | none => match simple M s [] false (o.dst.getD s.n) o.op with
      | some (v, c, s') => cond c (k (s'.setO o.dst v)) none
      | none => none
  | some (j, w) => match (ops[j]?).bind (·.dst), o.dst with
    | some q, some d => if q = d then none else
      match gval 6 s q w with
      | some g =>
        if isCall o.op then
          match o.op with
          | .call c => callOp M callF s (gchain 6 s q w) (some g) d o.type c (fun v s' => k (s'.set d (.gl q w v)))
          | _ => none
        else match simple M s (gchain 6 s q w) true d o.op with
          | some (v, c, s') => cond (c || !g) (k (s'.set d (.gl q w v))) none
          | none => none
      | none => none
    | _, _ => none
  else none
def stepOps (M : Mach E) (callF : FuncId → List (Arg E) → Res E) (ops : Array Oper) : List Oper → St E → (St E → Res E) → Res E
  | [], s, k => k s
  | o :: r, s, k => stepOp M callF ops o s (fun s' => stepOps M callF ops r s' k)
inductive FK where
  | quiet | loud | mov | fresh | fixed
  deriving DecidableEq
structure Foot where
  dst : Option Nat
  deps : List Nat
  reads : List Nat
  writes : List Nat
  k : FK
def glDeps : SV E → List Nat
  | .gl s _ v => s :: glDeps v
  | _ => []
def slotDeps (s : St E) (t : Nat) : List Nat := t :: glDeps (s.slot t)
def gDeps : Nat → St E → Nat → List Nat
  | 0, _, _ => []
  | k + 1, s, q => slotDeps s q ++ (match s.slot q with
    | .gl d' _ _ => gDeps k s d'
    | _ => [])
def opTs : List Operand → List Nat
  | [] => []
  | .tmp t :: r => t :: opTs r
  | _ :: r => opTs r
def nmC : CV E → List Nat
  | .ptr n _ _ => [n]
  | .ref n _ _ => [n]
  | .optr n _ _ _ => [n]
  | _ => []
def nmSV : SV E → List Nat
  | .c v => nmC v
  | .agg cs => cs.flatMap nmC
  | _ => []
def nmOp (s : St E) (ch : Chain) (x : Operand) : List Nat := nmSV (ev s ch x)
def nmOps (s : St E) (ch : Chain) (xs : List Operand) : List Nat := xs.flatMap (nmOp s ch)
def isDatC : CV E → Bool
  | .leaf _ _ => true
  | .nilS => true
  | _ => false
def datOp (s : St E) (ch : Chain) (x : Operand) : Bool := match svCells (ev s ch x) with
  | some cs => cs.all isDatC
  | none => false
def isNilS : Operand → Bool
  | .const (.slice none 0 0) => true
  | _ => false
def ownCount (rs : List (Bool × List (Ty × Bool))) : Nat := (resPieces rs).length
def footOp (M : Mach E) (s : St E) (ch : Chain) (grd : Bool) (d : Nat) (o : Op) : FK × List Operand × List Nat × List Nat :=
  match o with
  | .move x => (.quiet, [x], [], [])
  | .assign x => (.quiet, [x], [], [])
  | .pick c a b => (.quiet, [c, a, b], [], [])
  | .build _ parts => (.quiet, parts.toList.map (·.2), [], [])
  | .load _ x => (.quiet, [x], nmOp s ch x, [])
  | .nilCheck x => (.quiet, [x], nmOp s ch x, [])
  | .binOp _ _ x y _ => (cond (isNilS y) .fixed .quiet, [x, y], [], [])
  | .unOp _ _ x => (.quiet, [x], [], [])
  | .convert _ _ x => (.quiet, [x], [], [])
  | .slice _ x lo hi none => (.quiet, x :: (lo.toList ++ hi.toList), nmOp s ch x, [])
  | .fieldAddr _ x _ => (.quiet, [x], nmOp s ch x, [])
  | .field _ x _ => (.quiet, [x], [], [])
  | .indexAddr _ x i => (.quiet, [x, i], nmOp s ch x, [])
  | .index _ x i => (.quiet, [x, i], [], [])
  | .extract x _ => (.quiet, [x], [], [])
  | .alloc _ => (.fresh, [], [], [d])
  | .makeSlice _ l c => (.fresh, [l, c], [], [d])
  | .buildSlice _ _ parts => (cond (!grd && parts.toList.all (fun p => datOp s ch p.2)) .fresh .loud, parts.toList.map (·.2), nmOps s ch (parts.toList.map (·.2)), d :: nmOps s ch (parts.toList.map (·.2)))
  | .store _ p x => (.loud, [p, x], nmOps s ch [p, x], nmOps s ch [p, x])
  | .call c => match c.callee with
    | .builtin .len => (.quiet, c.args.toList, nmOps s ch c.args.toList, [])
    | .builtin .min => (.quiet, c.args.toList, [], [])
    | .builtin .max => (.quiet, c.args.toList, [], [])
    | .builtin .append => (.mov, c.args.toList, nmOps s ch c.args.toList, d :: nmOps s ch c.args.toList)
    | .builtin .copy => (.loud, c.args.toList, nmOps s ch c.args.toList, nmOps s ch c.args.toList)
    | .value (.func f) => match M.sigs.find f with
      | some sg => (cond (sg.ps.all isValP) .mov .fixed, c.args.toList, nmOps s ch c.args.toList,
          cond (mayKeep (resPieces sg.rs)) (nmOps s ch c.args.toList) [] ++ (List.range (ownCount sg.rs)).map (nameBase d + ·))
      | none => (.fixed, [], [], [])
    | _ => (.fixed, [], [], [])
  | _ => (.fixed, [], [], [])
def footOf (M : Mach E) (ops : Array Oper) (s : St E) (o : Oper) : Option Foot :=
  match o.guard with
  | none => match (cond (isCall o.op) none (nilCmp M s o.op)) with
    | some _ => none
    | none => match footOp M s [] false (o.dst.getD s.n) o.op with
      | (k, xs, r, w) => some ⟨o.dst, (opTs xs).flatMap (slotDeps s), r, w, k⟩
  | some (j, b) => match (ops[j]?).bind (·.dst) with
    | some q => match footOp M s (gchain 6 s q b) true (o.dst.getD s.n) o.op with
      | (k, xs, r, w) => some ⟨o.dst, gDeps 6 s q ++ (opTs xs).flatMap (slotDeps s), r, w, k⟩
    | none => none
def apart (a b : List Nat) : Bool := a.all (fun n => !(b.any (Nat.beq n)))
def dstApart (d : Option Nat) (l : List Nat) : Bool := match d with
  | none => true
  | some d => !(l.any (Nat.beq d))
def dstNe : Option Nat → Option Nat → Bool
  | some a, some b => !(Nat.beq a b)
  | _, _ => true
def kindsOk (f g : Foot) : Bool :=
  match f.k, g.k with
  | .quiet, .quiet => true
  | .quiet, .loud => apart f.reads g.writes
  | .quiet, .mov => apart f.reads g.writes
  | .quiet, .fresh => apart f.reads g.writes
  | .loud, .quiet => apart g.reads f.writes
  | .mov, .quiet => apart g.reads f.writes
  | .fresh, .quiet => apart g.reads f.writes
  | .fresh, .mov => apart f.writes (g.reads ++ g.writes)
  | .mov, .fresh => apart g.writes (f.reads ++ f.writes)
  | .fresh, .fresh => apart f.writes (g.reads ++ g.writes) && apart g.writes (f.reads ++ f.writes)
  | _, _ => false
def indep (f g : Foot) : Bool := dstApart f.dst g.deps && (dstApart g.dst f.deps && (dstNe f.dst g.dst && kindsOk f g))
def anc (ops : Array Oper) : Nat → Nat → Nat → Bool
  | 0, _, _ => false
  | k + 1, i, j => match ops[i]? with
    | some o => o.after.toList.any (fun e => Region.binds .any e && (Nat.beq e.on j || anc ops k e.on j))
    | none => false
def pairsOk (ops : Array Oper) : List (Nat × Foot) → Bool
  | [] => true
  | (j, f) :: r => r.all (fun p => anc ops ops.size p.1 j || indep f p.2) && pairsOk ops r
def stepOpsD (M : Mach E) (callF : FuncId → List (Arg E) → Res E) (ops : Array Oper) : List Oper → Nat → List (Nat × Foot) → St E → (St E → Res E) → Res E
  | [], _, acc, s, k => cond (pairsOk ops acc) (k s) none
  | o :: r, i, acc, s, k => match footOf M ops s o with
    | some f => stepOp M callF ops o s (fun s' => stepOpsD M callF ops r (i + 1) (acc ++ [(i, f)]) s' k)
    | none => none
def edgesOk (ops : Array Oper) : Bool := nodup (ops.toList.filterMap (·.dst)) && (List.range ops.size).all (fun i => match ops[i]? with
  | some o => o.after.toList.all (fun e => !(Region.binds .any e) || Nat.ble (e.on + 1) i) && (match o.guard with
    | some (j, _) => o.after.toList.any (fun e => Region.binds .any e && Nat.beq e.on j)
    | none => true)
  | none => true)
def entryOk (ops : Array Oper) (s : St E) : Bool := s.sl.all (fun p => (glDeps p.2).all (fun q => ops.toList.all (fun o => match o.dst with
  | some d => !(Nat.beq q d)
  | none => true)))
def findBox (s : St E) (b : Nat) : Option (Nat × List (CV E)) :=
  match lk s.ob b with
  | some (g, .box cs) => some (g, cs)
  | _ => none
def getLoc (s : St E) : Loc → Option (CV E)
  | .slot n => match s.slot n with
    | .c v => some v
    | _ => none
  | .cell b i => match findBox s b with
    | some (_, cs) => cs[i]?
    | _ => none
def setLoc (s : St E) (v : CV E) : Loc → St E
  | .slot n => s.set n (.c v)
  | .cell b i => match findBox s b with
    | some (g, cs) => s.putOb b g (.box (cs.set i v))
    | _ => s
def locOk (s : St E) : Loc → Bool
  | .slot n => Nat.ble (n + 1) s.n
  | .cell _ _ => true
def mapSV (f : CV E → CV E) : SV E → SV E
  | .c v => .c (f v)
  | .agg cs => .agg (cs.map f)
  | .tup vs => .tup (vs.map (fun p => (p.1, p.2.map f)))
  | .gl s w v => .gl s w (mapSV f v)
def mapOb (f : CV E → CV E) : Ob E → Ob E
  | .box cs => .box (cs.map f)
  | o => o
def live (s : St E) (n g : Nat) : Bool :=
  match s.obj n g with
  | some .gone => false
  | some _ => true
  | none => false
def renew (s : St E) (ob : List Nat) : CV E → CV E
  | .ptr n g off => cond (ob.any (Nat.beq n) && live s n g) (.ptr n 0 off) .dead
  | .ref n g w => cond (ob.any (Nat.beq n) && live s n g) (.ref n 0 w) .dead
  | .optr n g i off => cond (ob.any (Nat.beq n) && live s n g) (.optr n 0 i off) .dead
  | .fn f caps => cond (caps.all (fun c => match c with | .box n g => ob.any (Nat.beq n) && live s n g | .ro _ _ => true))
      (.fn f (caps.map (fun c => match c with | .box n _ => .box n 0 | c => c))) .dead
  | v => v
def keepSl (s : St E) (ob : List Nat) : List Nat → List (Nat × SV E)
  | [] => []
  | n :: r => match lk s.sl n with
    | some v => (n, mapSV (renew s ob) v) :: keepSl s ob r
    | none => keepSl s ob r
def keepOb (s : St E) (ob : List Nat) : List Nat → List (Nat × Nat × Ob E)
  | [] => []
  | n :: r => match lk s.ob n with
    | some (_, .gone) => keepOb s ob r
    | some (_, o) => (n, 0, mapOb (renew s ob) o) :: keepOb s ob r
    | none => keepOb s ob r
def hint (s : St E) : Hint → Option (St E)
  | .own l nm t => if locOk s l then match getLoc s l with
    | some .nilS => if nm < 500000 then none else some (setLoc (s.fresh nm (.tok t [])) (.ref nm (s.gen nm) none) l)
    | some (.ref n g w) => match s.obj n g with
      | some (.tok t' xs) => if t' = t then
          if n = nm ∧ w.isNone = true then some s
          else if nm < 500000 then none else some (setLoc ((s.kill n g).fresh nm (.tok t' (winOf xs w))) (.ref nm ((s.kill n g).gen nm) none) l)
        else none
      | _ => none
    | _ => none
    else none
  | .imm l t => if locOk s l then match getLoc s l with
    | some .nilS => some (setLoc s (.leaf (.slice t) []) l)
    | some (.ref n g w) => match (s.freeze n g).look (.ref n g w) with
      | .leaf t' x => some (setLoc (s.freeze n g) (.leaf t' x) l)
      | _ => none
    | some (.leaf _ _) => some s
    | _ => none
    else none
  | .fnv l => if locOk s l then match getLoc s l with
    | some (.fn f []) => if E.one f then some (setLoc s (.fnd f []) l) else none
    | some (.fnd _ _) => some s
    | _ => none
    else none
  | .keep sl ob => some { n := s.n, sl := keepSl s ob sl, ob := keepOb s ob ob }
def norm (s : St E) : List Hint → Option (St E)
  | [] => some s
  | h :: r => match hint s h with
    | some s' => norm s' r
    | none => none
abbrev Kont (E : Env) := Ex → St E → Res E
def thenK (g : St E → Res E) (K : Kont E) : Kont E
  | .normal, s => g s
  | e, s => K e s
def blockK (id : Nat) (K : Kont E) : Kont E
  | .exit i, s => cond (Nat.beq i id) (K .normal s) (K (.exit i) s)
  | e, s => K e s
structure Cx (E : Env) where
  M : Mach E
  f : FuncId
  callF : FuncId → List (Arg E) → Res E
def Cx.hints (C : Cx E) (b : Nat) : Option (List Hint) := (C.M.hints.find C.f).bind (fun t => t.find b)
def again (C : Cx E) (b : Nat) (s : St E) (g : St E → Res E) : Res E :=
  match C.hints b with
  | some h => match norm s h with
    | some s' => g s'
    | none => none
  | none => none
def execA (C : Cx E) (rec : Nat → Code → St E → Kont E → Res E) : Nat → Code → St E → Kont E → Res E
  | _, .skip, s, K => K .normal s
  | _, .region _ ops draw, s, K =>
    cond draw (cond (edgesOk ops && entryOk ops s) (stepOpsD C.M C.callF ops ops.toList 0 [] s (fun s' => K .normal s')) none) (stepOps C.M C.callF ops ops.toList s (fun s' => K .normal s'))
  | b, .seq x y, s, K => execA C rec b x s (thenK (fun s' => execA C rec b y s' K) K)
  | b, .cond c x y, s, K => match ev s [] c with
    | .c (.leaf .bool (t : Bool)) => cond t (execA C rec b x s K) (execA C rec b y s K)
    | _ => none
  | _, .block id c, s, K => execA C rec id c s (blockK id K)
  | b, .loop c, s, K => again C b s (fun s' => rec b c s' K)
  | _, .exit id, s, K => K (.exit id) s
  | _, .ret, s, K => K .ret s
  | _, _, _, _ => none
def exec (C : Cx E) : Nat → Nat → Code → St E → Kont E → Res E
  | 0, _, _, _, _ => none
  | k + 1, b, c, s, K => execA C (exec C k) b c s (thenK (fun s' => again C b s' (fun s'' => exec C k b c s'' K)) K)
def findK (C : Cx E) (id : Nat) : Code → List Nat → Nat → (Nat → Code → St E → Kont E → Res E) → Kont E → Option (Code × Kont E)
  | .seq x y, ks, b, rec, K => match findK C id x ks b rec (thenK (fun s' => execA C rec b y s' K) K) with
    | some r => some r
    | none => findK C id y ks b rec K
  | .cond _ x y, ks, b, rec, K => match findK C id x ks b rec K with
    | some r => some r
    | none => findK C id y ks b rec K
  | .block i c, ks, _, rec, K => findK C id c ks i rec (blockK i K)
  | .loop c, ks, b, _, K => cond (Nat.beq b id) (some (c, K)) (match ks with
    | k :: ks' => findK C id c ks' b (exec C k) (thenK (fun s' => again C b s' (fun s'' => exec C k b c s'' K)) K)
    | [] => none)
  | _, _, _, _, _ => none
def nameP (p : Nat) : Nat := 100000 + 64 * p
def ownCells : Nat → List (Ty × Bool) → List (Dt E) → Option (List (CV E) × List (Nat × Nat × Ob E))
  | _, [], [] => some ([], [])
  | b, (_, false) :: r, ⟨t, x⟩ :: ds => match ownCells b r ds with
    | some (cs, os) => some (CV.leaf t x :: cs, os)
    | none => none
  | b, (_, true) :: r, ⟨.slice t, x⟩ :: ds => match ownCells (b + 1) r ds with
    | some (cs, os) => some (CV.ref b 0 none :: cs, (b, 0, Ob.tok t x) :: os)
    | none => none
  | _, _, _ => none
def svOf (t : Ty) (x : den E.Γ t) : SV E :=
  match exp E t x with
  | [v] => .c v
  | cs => .agg cs
def enter : Nat → List (Arg E) → Option (List (Nat × SV E) × List (Nat × Nat × Ob E))
  | _, [] => some ([], [])
  | p, a :: r => match enter (p + 1) r with
    | none => none
    | some (sl, ob) => match a with
      | .val t x => some ((p, svOf t x) :: sl, ob)
      | .fn f l => some ((p, .c (.fnd f l)) :: sl, ob)
      | .ro t x => some ((p, .c (.ro t x 0)) :: sl, ob)
      | .rw cs x => match ownCells (nameP p + 1) cs (unL E (cs.map (·.1)) x) with
        | some (vs, os) => some ((p, .c (.ptr (nameP p) 0 0)) :: sl, (nameP p, 0, .box vs) :: os ++ ob)
        | none => none
      | .own t xs => some ((p, .c (.ref (nameP p) 0 none)) :: sl, (nameP p, 0, .tok t xs) :: ob)
      | .take t xs => some ((p, .c (.ref (nameP p) 0 none)) :: sl, (nameP p, 0, .tok t xs) :: ob)
def initSt (n : Nat) (args : List (Arg E)) : Option (St E) :=
  if args.length ≤ n ∧ args.length < 6000 ∧ n < 100000 then
    match enter 0 args with
    | some (sl, ob) => some { n := n, sl := sl, ob := ob }
    | none => none
  else none
def outs1 (s : St E) : List (Ty × Bool) → List (CV E) → Option (List (Dt E))
  | [], [] => some []
  | (t, _) :: r, cs => match pack E t ((cs.take (nc E t)).map s.look) with
    | some x => match outs1 s r (cs.drop (nc E t)) with
      | some l => some (⟨t, x⟩ :: l)
      | none => none
    | none => none
  | [], _ :: _ => none
def ownRefs : List (Ty × Bool) → List (CV E) → Option (List (Nat × Nat))
  | [], _ => some []
  | (.slice _, true) :: r, .ref n g _ :: cs => (ownRefs r cs).map (fun l => (n, g) :: l)
  | (.slice _, true) :: r, .nilS :: cs => ownRefs r cs
  | (_, true) :: _, _ => none
  | (t, false) :: r, cs => ownRefs r (cs.drop (nc E t))
def immCells : List (Ty × Bool) → List (CV E) → List (CV E)
  | [], _ => []
  | (_, true) :: r, cs => immCells r (cs.drop 1)
  | (t, false) :: r, cs => cs.take (nc E t) ++ immCells r (cs.drop (nc E t))
def namesIn : List (CV E) → List Nat
  | [] => []
  | .ref n _ _ :: r => n :: namesIn r
  | _ :: r => namesIn r
def sizeOfPs (E : Env) (ps : List (Ty × Bool)) : Nat := ps.foldl (fun n p => n + nc E p.1) 0
def result (M : Mach E) (s : St E) (a : Bool) (ps : List (Ty × Bool)) (v : ResultVar) : Option (List (CV E)) :=
  if a == Nat.beq (sizeOfPs E ps) 1 then none else
  match v with
  | .tmp t => match s.slot t with
    | .c v => cond a none (some [v])
    | .agg cs => cond (a && Nat.beq cs.length (sizeOfPs E ps)) (some cs) none
    | _ => none
  | .cell x t => match M.tys.find t, s.slot x with
    | some ti, .c (.ptr n g off) => match load ti s (.ptr n g off) with
      | some (.c v) => cond a none (some [v])
      | some (.agg cs) => cond (a && Nat.beq cs.length (sizeOfPs E ps)) (some cs) none
      | _ => none
    | _, _ => none
def gather (M : Mach E) (s : St E) : List ResultVar → List (Bool × List (Ty × Bool)) → Option (List (CV E))
  | [], [] => some []
  | v :: vs, (a, ps) :: rs => match result M s a ps v, gather M s vs rs with
    | some cs, some r => some (cs ++ r)
    | _, _ => none
  | _, _ => none
inductive OutP where
  | rw (p : Nat) (cs : List (Ty × Bool))
  | own (p : Nat) (t : Ty)
def outsOf : Nat → List (Arg E) → List OutP
  | _, [] => []
  | p, .rw cs _ :: r => .rw p cs :: outsOf (p + 1) r
  | p, .own t _ :: r => .own p t :: outsOf (p + 1) r
  | p, .val _ _ :: r => outsOf (p + 1) r
  | p, .ro _ _ :: r => outsOf (p + 1) r
  | p, .fn _ _ :: r => outsOf (p + 1) r
  | p, .take _ _ :: r => outsOf (p + 1) r
def gatherOuts (s : St E) : List OutP → Option (List (CV E) × List (Ty × Bool))
  | [] => some ([], [])
  | .rw p cs :: r => match s.obj (nameP p) 0, gatherOuts s r with
    | some (.box vs), some (ws, ps) => cond (Nat.beq vs.length (sizeOfPs E cs)) (some (vs ++ ws, cs ++ ps)) none
    | _, _ => none
  | .own p t :: r => match gatherOuts s r with
    | some (ws, ps) => some (.ref (nameP p) 0 none :: ws, (.slice t, true) :: ps)
    | none => none
def leave (M : Mach E) (fn : Func) (sg : Sig) (os : List OutP) : Kont E
  | .exit _, _ => none
  | _, s =>
    match gather M s fn.results.toList sg.rs, gatherOuts s os with
    | some cs, some (ws, ps) =>
      let all := resPieces sg.rs ++ ps
      match ownRefs (E := E) all (cs ++ ws) with
      | some l =>
        if nodup (l.map (·.1)) && (l.all (fun p => isTok s p.1 p.2) && !((namesIn (immCells all (cs ++ ws))).any (fun n => l.any (fun p => Nat.beq p.1 n)))) then
          match outs1 s all (cs ++ ws) with
          | some ds => match mkL E (piecesTy all) ds with
            | some x => some ⟨tyL (piecesTy all), x⟩
            | none => none
          | none => none
        else none
      | none => none
    | _, _ => none
def run (M : Mach E) : Nat → FuncId → List (Arg E) → Res E
  | 0, _, _ => none
  | k + 1, f, args => match M.ext.find f with
    | some g => g args
    | none => match M.fns.find f, M.sigs.find f with
      | some fn, some sg => match fn.body, initSt fn.ntmps args with
        | some c, some s => execA ⟨M, f, run M k⟩ (exec ⟨M, f, run M k⟩ k) 0 c s (leave M fn sg (outsOf 0 args))
        | _, _ => none
      | _, _ => none
def loopAt (M : Mach E) (k : Nat) (f : FuncId) (id : Nat) (os : List OutP) (ks : List Nat) (j : Nat) (s : St E) : Res E :=
  match M.fns.find f, M.sigs.find f with
  | some fn, some sg => match fn.body with
    | some c => match findK ⟨M, f, run M k⟩ id c ks 0 (exec ⟨M, f, run M k⟩ k) (leave M fn sg os) with
      | some (l, K) => exec ⟨M, f, run M k⟩ j id l s K
      | none => none
    | none => none
  | _, _ => none
end Go.Proofs.AM

namespace Go.Proofs.AM
open Go Go.RowKit
inductive All2 {α β : Type} (R : α → β → Prop) : List α → List β → Prop where
  | nil : All2 R [] []
  | cons {a : α} {b : β} {as : List α} {bs : List β} : R a b → All2 R as bs → All2 R (a :: as) (b :: bs)
theorem All2.imp {α β : Type} {R S : α → β → Prop} (h : ∀ a b, R a b → S a b) {as : List α} {bs : List β} (x : All2 R as bs) : All2 S as bs := by
  induction x with
  | nil => exact .nil
  | cons r _ ih => exact .cons (h _ _ r) ih
theorem All2.imp_mem {α β : Type} {R S : α → β → Prop} {as : List α} {bs : List β} (x : All2 R as bs) (h : ∀ a b, a ∈ as → R a b → S a b) : All2 S as bs := by
  induction x with
  | nil => exact .nil
  | cons r _ ih => exact .cons (h _ _ (by simp) r) (ih fun a b m => h a b (by simp [m]))
theorem All2.length {α β : Type} {R : α → β → Prop} {as : List α} {bs : List β} (x : All2 R as bs) : as.length = bs.length := by
  induction x with
  | nil => rfl
  | cons _ _ ih => simp [ih]
theorem All2.append {α β : Type} {R : α → β → Prop} {as as' : List α} {bs bs' : List β} (x : All2 R as bs) (y : All2 R as' bs') : All2 R (as ++ as') (bs ++ bs') := by
  induction x with
  | nil => exact y
  | cons r _ ih => exact .cons r ih
theorem All2.take {α β : Type} {R : α → β → Prop} {as : List α} {bs : List β} (x : All2 R as bs) (n : Nat) : All2 R (as.take n) (bs.take n) := by
  induction x generalizing n with
  | nil => simp; exact .nil
  | cons r _ ih => cases n with
    | zero => exact .nil
    | succ n => exact .cons r (ih n)
theorem All2.drop {α β : Type} {R : α → β → Prop} {as : List α} {bs : List β} (x : All2 R as bs) (n : Nat) : All2 R (as.drop n) (bs.drop n) := by
  induction x generalizing n with
  | nil => simp; exact .nil
  | cons r h ih => cases n with
    | zero => exact .cons r h
    | succ n => exact ih n
theorem All2.map_left {α β γ : Type} {R : γ → β → Prop} (f : α → γ) {as : List α} {bs : List β} (x : All2 (fun a b => R (f a) b) as bs) : All2 R (as.map f) bs := by
  induction x with
  | nil => exact .nil
  | cons r _ ih => exact .cons r ih
theorem All2.get {α β : Type} {R : α → β → Prop} {as : List α} {bs : List β} (x : All2 R as bs) (i : Nat) (a : α) (h : as[i]? = some a) : ∃ b, bs[i]? = some b ∧ R a b := by
  induction x generalizing i with
  | nil => simp at h
  | cons r _ ih => cases i with
    | zero => simp at h; subst h; exact ⟨_, by simp, r⟩
    | succ i => simp at h; obtain ⟨b, hb, hr⟩ := ih i h; exact ⟨b, by simpa using hb, hr⟩
theorem All2.set {α β : Type} {R : α → β → Prop} {as : List α} {bs : List β} (x : All2 R as bs) (i : Nat) (a : α) (b : β) (h : R a b) : All2 R (as.set i a) (bs.set i b) := by
  induction x generalizing i with
  | nil => exact .nil
  | cons r y ih => cases i with
    | zero => exact .cons h y
    | succ i => exact .cons r (ih i)
structure EnvOk (E : Env) : Prop where
  flat : ∀ n, nc E (E.row n) = ncF (E.row n)
  expF : ∀ n (x : den E.Γ (E.row n)), exp E (E.row n) x = expF E (E.row n) x
  zero : ∀ n, E.op n (E.dflt n) = dflt E (E.row n)
inductive RepD (E : Env) (w : World) (ok : Nat → Nat → Prop) : (t : Ty) → den E.Γ t → List Value → Prop where
  | unit : RepD E w ok .unit () []
  | int (k : IntKind) (n : Int) : RepD E w ok (.int k) n [.int k n]
  | bool (b : Bool) : RepD E w ok .bool b [.bool b]
  | str (s : ByteArray) : RepD E w ok .str s [.string s]
  | pair {a b : Ty} {x : den E.Γ a} {y : den E.Γ b} {cs ds : List Value} :
      RepD E w ok a x cs → RepD E w ok b y ds → RepD E w ok (.pair a b) (x, y) (cs ++ ds)
  | nom {n : Nat} {x : E.Γ n} {cs : List Value} : RepD E w ok (E.row n) (E.op n x) cs → RepD E w ok (.nom n) x cs
  | nil {t : Ty} (p : Option Addr) : RepD E w ok (.slice t) [] [.slice p 0 0]
  | onil {t : Ty} : RepD E w ok (.opt t) none [.slice none 0 0]
  | osome {t : Ty} {xs : List (den E.Γ t)} {cs : List Value} : RepD E w ok (.slice t) xs cs → RepD E w ok (.opt t) (some xs) cs
  | slice {t : Ty} (b off cap : Nat) (xs : List (den E.Γ t)) (f : Nat → List Value) : (∀ k, k < xs.length * nc E t → ok b (off + k)) → xs.length ≤ cap → (b < w.heap.size) →
      (∀ i, i < xs.length → (f i).length = nc E t ∧ ∀ j, j < nc E t → w.cell? ⟨b, off + i * nc E t + j, none⟩ = (f i)[j]?) →
      (∀ i (h : i < xs.length), RepD E w ok t xs[i] (f i)) →
      RepD E w ok (.slice t) xs [.slice (some ⟨b, off, none⟩) xs.length cap]
variable {E : Env}
theorem row_lt {i n j c : Nat} (hi : i < n) (hj : j < c) : i * c + j < n * c := by
  have : (i + 1) * c ≤ n * c := Nat.mul_le_mul_right c hi
  rw [Nat.succ_mul] at this; omega
theorem RepD.mono {w w' : World} {ok ok' : Nat → Nat → Prop} (hok : ∀ b k, ok b k → ok' b k) (hs : w.heap.size ≤ w'.heap.size)
    (hw : ∀ b k, ok b k → w'.cell? ⟨b, k, none⟩ = w.cell? ⟨b, k, none⟩) {t : Ty} {x : den E.Γ t} {cs : List Value} (h : RepD E w ok t x cs) : RepD E w' ok' t x cs := by
  induction h with
  | unit => exact .unit
  | int => exact .int _ _
  | bool => exact .bool _
  | str => exact .str _
  | pair _ _ ih1 ih2 => exact .pair ih1 ih2
  | nom _ ih => exact .nom ih
  | nil p => exact .nil p
  | onil => exact .onil
  | osome _ ih => exact .osome ih
  | slice b off cap xs f hb hc hl hcell _ ih =>
    refine .slice b off cap xs f (fun k hk => hok _ _ (hb k hk)) hc (Nat.lt_of_lt_of_le hl hs) (fun i hi => ⟨(hcell i hi).1, fun j hj => ?_⟩) ih
    rw [← (hcell i hi).2 j hj]
    have := hw b (off + (i * nc E _ + j)) (hb _ (row_lt hi hj))
    rw [← Nat.add_assoc] at this
    exact this
theorem RepD.len (hE : EnvOk E) {w : World} {ok : Nat → Nat → Prop} {t : Ty} {x : den E.Γ t} {cs : List Value} (h : RepD E w ok t x cs) : cs.length = nc E t := by
  induction h with
  | pair _ _ ih1 ih2 => simp [nc, ih1, ih2]
  | nom _ ih => simpa [nc, hE.flat] using ih
  | osome _ ih => exact ih
  | _ => rfl
theorem RepD.int_inv {w : World} {ok : Nat → Nat → Prop} {k : IntKind} {x : den E.Γ (.int k)} {cs : List Value} (h : RepD E w ok (.int k) x cs) : cs = [.int k x] := by cases h; rfl
theorem RepD.bool_inv {w : World} {ok : Nat → Nat → Prop} {x : den E.Γ .bool} {cs : List Value} (h : RepD E w ok .bool x cs) : cs = [.bool x] := by cases h; rfl
theorem RepD.str_inv {w : World} {ok : Nat → Nat → Prop} {x : den E.Γ .str} {cs : List Value} (h : RepD E w ok .str x cs) : cs = [.string x] := by cases h; rfl
theorem RepD.opt_inv {w : World} {ok : Nat → Nat → Prop} {t : Ty} {x : Option (List (den E.Γ t))} {cs : List Value} (h : RepD E w ok (.opt t) x cs) :
    (x = none ∧ cs = [.slice none 0 0]) ∨ ∃ xs, x = some xs ∧ RepD E w ok (.slice t) xs cs := by
  cases h with
  | onil => exact .inl ⟨rfl, rfl⟩
  | osome h => exact .inr ⟨_, rfl, h⟩
theorem RepD.toSlice {w : World} {ok : Nat → Nat → Prop} {t : Ty} {x : Option (List (den E.Γ t))} {cs : List Value} (h : RepD E w ok (.opt t) x cs) : RepD E w ok (.slice t) (x.getD []) cs := by
  rcases h.opt_inv with ⟨h1, h2⟩ | ⟨xs, h1, h2⟩
  · subst h1; subst h2; exact .nil none
  · subst h1; exact h2
theorem RepD.slice_inv {w : World} {ok : Nat → Nat → Prop} {t : Ty} {xs : den E.Γ (.slice t)} {cs : List Value} (h : RepD E w ok (.slice t) xs cs) :
    (∃ p, cs = [.slice p 0 0] ∧ xs = []) ∨ ∃ (b off cap : Nat) (f : Nat → List Value), cs = [.slice (some ⟨b, off, none⟩) (List.length (α := den E.Γ t) xs) cap] ∧ (∀ k, k < List.length (α := den E.Γ t) xs * nc E t → ok b (off + k)) ∧ List.length (α := den E.Γ t) xs ≤ cap ∧ b < w.heap.size ∧
      (∀ i, i < List.length (α := den E.Γ t) xs → (f i).length = nc E t ∧ ∀ j, j < nc E t → w.cell? ⟨b, off + i * nc E t + j, none⟩ = (f i : List Value)[j]?) ∧
      (∀ i (h : i < List.length (α := den E.Γ t) xs), RepD E w ok t (List.get (α := den E.Γ t) xs ⟨i, h⟩) (f i)) := by
  cases h with
  | nil p => exact .inl ⟨p, rfl, rfl⟩
  | slice b off cap xs f hb hc hl hcell hrep => exact .inr ⟨b, off, cap, f, rfl, hb, hc, hl, hcell, hrep⟩
structure Asg where
  B : Nat → Option Nat
  O : Nat → Nat
def winLo : Option (Nat × Nat) → Nat
  | none => 0
  | some (lo, _) => lo
def winLen (n : Nat) : Option (Nat × Nat) → Nat
  | none => n
  | some (_, len) => len
structure FC where
  w0 : World
  rw : Nat → Prop
  okS : Nat → Nat → Prop
  okP : Nat → Prop
  A0 : Asg
def pinned (n : Nat) : Prop := 100000 ≤ n ∧ n < 500000
abbrev Obs (E : Env) := List (Nat × Nat × Ob E)
def Known (ob : Obs E) (n g : Nat) : Prop := ∃ h o, lk ob n = some (h, o) ∧ g ≤ h
def RepRef (w : World) (A : Asg) (n : Nat) (size : Nat) (len : Nat) (win : Option (Nat × Nat)) (v : Value) : Prop :=
  match A.B n with
  | none => v = .slice none 0 0 ∧ winLen len win = 0
  | some b => ∃ o cap cs e, v = .slice (some ⟨b, o, none⟩) (winLen len win) cap ∧ w.heap[b]? = some (.cells cs e (0, 0)) ∧
      winLo win + winLen len win ≤ len ∧ winLen len win ≤ cap ∧ (cap = 0 ∨ o = A.O n + winLo win * size) ∧ o + cap * size ≤ cs.size
def RepP (E : Env) (w : World) (okS : Nat → Nat → Prop) (okP : Nat → Prop) (t : Ty) (x : den E.Γ t) (off : Nat) (v : Value) : Prop :=
  ∃ b o cs, v = .pointer (some ⟨b, o + off, none⟩) ∧ ((∀ j, j < nc E t → okS b (o + j)) ∨ okP b) ∧ b < w.heap.size ∧ cs.length = nc E t ∧ (∀ j, j < nc E t → w.cell? ⟨b, o + j, none⟩ = cs[j]?) ∧ RepD E w okS t x cs
def RepCap (w : World) (okS : Nat → Nat → Prop) (okP : Nat → Prop) (ob : Obs E) (A : Asg) : Cap E → Value → Prop
  | .box n g, v => Known ob n g ∧ ∀ cs, objOf ob n g = some (.box cs) → ∃ b, A.B n = some b ∧ v = .pointer (some ⟨b, 0, none⟩)
  | .ro t x, v => RepP E w okS okP t x 0 v
def RepCV (w : World) (okS : Nat → Nat → Prop) (okP : Nat → Prop) (ob : Obs E) (A : Asg) : CV E → Value → Prop
  | .dead, _ => True
  | .leaf t x, v => RepD E w okS t x [v]
  | .nilS, v => v = .slice none 0 0
  | .nilP, v => v = .pointer none
  | .ptr n g off, v => Known ob n g ∧ v.oneCell' = true ∧ ∀ cs, objOf ob n g = some (.box cs) → ∃ b, A.B n = some b ∧ v = .pointer (some ⟨b, off, none⟩)
  | .ref n g win, v => (Known ob n g ∧ v.oneCell' = true) ∧ (∀ t xs, objOf ob n g = some (.tok t xs) → RepRef w A n (nc E t) xs.length win v) ∧
      (∀ t xs, objOf ob n g = some (.frz t xs) → RepD E w okS (.slice t) (winOf xs win) [v] ∧ RepRef w A n (nc E t) xs.length win v)
  | .optr n g i off, v => Known ob n g ∧ v.oneCell' = true ∧ ∀ t xs, objOf ob n g = some (.tok t xs) → i < xs.length ∧ ∃ b, A.B n = some b ∧ v = .pointer (some ⟨b, A.O n + i * nc E t + off, none⟩)
  | .ro t x off, v => RepP E w okS okP t x off v
  | .fn f caps, v => ∃ vs : List Value, v = .func (.func f) #[] vs.toArray ∧ All2 (RepCap w okS okP ob A) caps vs
  | .fnd f l, v => ∃ vs : List Value, (v = .func (.func f) #[] vs.toArray ∧ E.one f = true) ∧ All2 (fun (d : Dt E) v => RepP E w okS okP d.1 d.2 0 v) l vs
def RepPart (w : World) (okS : Nat → Nat → Prop) (okP : Nat → Prop) (ob : Obs E) (A : Asg) (p : Bool × List (CV E)) (v : Value) : Prop :=
  match p.1 with
  | true => ∃ vs : List Value, v = .agg vs.toArray ∧ All2 (RepCV w okS okP ob A) p.2 vs
  | false => ∃ c, p.2 = [c] ∧ RepCV w okS okP ob A c v
def RepSV (w : World) (okS : Nat → Nat → Prop) (okP : Nat → Prop) (ob : Obs E) (A : Asg) (tmps : Array Value) : SV E → Value → Prop
  | .c c, v => RepCV w okS okP ob A c v
  | .agg cs, v => ∃ vs : List Value, v = .agg vs.toArray ∧ All2 (RepCV w okS okP ob A) cs vs
  | .tup ps, v => ∃ vs : List Value, v = .tuple vs.toArray ∧ All2 (RepPart w okS okP ob A) ps vs
  | .gl q b x, v => (tmps.getD q undef = .bool b → RepSV w okS okP ob A tmps x v) ∧ (tmps.getD q undef ≠ .bool b → v = undef)
def RepRow (E : Env) (w : World) (okS : Nat → Nat → Prop) (t : Ty) (xs : List (den E.Γ t)) (off : Nat) (cs : Array Value) : Prop :=
  ∃ f : Nat → List Value, ∀ i (h : i < xs.length), (f i).length = nc E t ∧ (∀ j, j < nc E t → cs[off + i * nc E t + j]? = (f i)[j]?) ∧ RepD E w okS t xs[i] (f i)
def RepOb (w : World) (okS : Nat → Nat → Prop) (okP : Nat → Prop) (ob : Obs E) (A : Asg) (n : Nat) : Ob E → Prop
  | .box cs => ∃ b vs e, A.B n = some b ∧ w.heap[b]? = some (.cells (vs : List Value).toArray e (0, 0)) ∧ All2 (RepCV w okS okP ob A) cs vs
  | .tok t xs => match A.B n with
    | none => xs = []
    | some b => ∃ cs e, w.heap[b]? = some (.cells cs e (0, 0)) ∧ RepRow E w okS t xs (A.O n) cs
  | .frz _ xs => match A.B n with
    | none => xs = []
    | some b => ∃ cs e, w.heap[b]? = some (.cells cs e (0, 0))
  | .gone => True
def isLive : Ob E → Bool
  | .gone => false
  | _ => true
def lim (A : Asg) (n : Nat) : Ob E → Nat
  | .frz t xs => A.O n + xs.length * nc E t
  | _ => 0
def Pin (C : FC) (A : Asg) (w : World) (n : Nat) : Ob E → Prop
  | .gone => True
  | .box _ => A.B n = C.A0.B n
  | _ => A.B n = C.A0.B n ∧ A.O n = C.A0.O n ∧ ∀ b cs e, A.B n = some b → C.w0.heap[b]? = some (.cells cs e (0, 0)) → ∃ cs', w.heap[b]? = some (.cells cs' e (0, 0)) ∧ cs'.size = cs.size
structure Inv (C : FC) (s : St E) (A : Asg) (okS : Nat → Nat → Prop) (tmps : Array Value) (w : World) : Prop where
  os : w.os = C.w0.os
  tape : w.tape = C.w0.tape
  output : w.output = C.w0.output
  size : C.w0.heap.size ≤ w.heap.size
  block : ∀ b, b < C.w0.heap.size → ¬ C.rw b → w.heap[b]? = C.w0.heap[b]?
  okLt : ∀ b k, okS b k → b < w.heap.size
  okSub : ∀ b k, okS b k → C.okS b k ∨ C.w0.heap.size ≤ b ∨ C.rw b
  okPLt : ∀ b, C.okP b → b < C.w0.heap.size ∧ ¬ C.rw b
  obj : ∀ n g o, lk s.ob n = some (g, o) → RepOb w okS C.okP s.ob A n o
  own : ∀ n g o b, lk s.ob n = some (g, o) → isLive o = true → A.B n = some b → (∀ k, lim A n o ≤ k → ¬ okS b k) ∧ ¬ C.okP b ∧ b < w.heap.size ∧ (C.w0.heap.size ≤ b ∨ C.rw b)
  inj : ∀ n m g h o p b, lk s.ob n = some (g, o) → lk s.ob m = some (h, p) → isLive o = true → isLive p = true → A.B n = some b → A.B m = some b → n = m
  sl : ∀ n v, lk s.sl n = some v → RepSV w okS C.okP s.ob A tmps v (tmps.getD n undef)
  tmps : tmps.size = s.n
  small : s.n < 100000
  pin : ∀ n g o, pinned n → lk s.ob n = some (g, o) → g = 0 ∧ Pin C A w n o
end Go.Proofs.AM

namespace Go.Proofs.AM
open Go Go.RowKit
variable {E : Env}
theorem beq_ne {a b : Nat} (h : a ≠ b) : Nat.beq a b = false := by
  cases he : Nat.beq a b
  · rfl
  · exact absurd (Nat.eq_of_beq_eq_true he) h
theorem lk_ins {α : Type} (k : Nat) (v : α) (l : List (Nat × α)) (m : Nat) : lk (ins k v l) m = if m = k then some v else lk l m := by
  induction l with
  | nil =>
    simp only [ins, lk]
    by_cases h : m = k
    · subst h; simp
    · rw [beq_ne (fun e => h e.symm)]; simp [h]
  | cons p r ih =>
    obtain ⟨k', v'⟩ := p
    simp only [ins]
    by_cases hk : k = k'
    · subst hk
      simp only [Nat.beq_refl, cond_true, lk]
      by_cases h : m = k
      · subst h; simp
      · rw [beq_ne (fun e => h e.symm)]; simp [h]
    · rw [beq_ne hk]
      cases hb : Nat.ble k k' with
      | true =>
        simp only [cond_false, cond_true, lk]
        by_cases h : m = k
        · subst h; simp
        · rw [beq_ne (fun e => h e.symm)]; simp [h]
      | false =>
        simp only [cond_false, lk, ih]
        by_cases h : m = k
        · subst h; rw [beq_ne (fun e => hk e.symm)]; simp
        · simp [h]
theorem ins_ins {α : Type} (k : Nat) (u v : α) (l : List (Nat × α)) : ins k v (ins k u l) = ins k v l := by
  induction l with
  | nil => simp [ins]
  | cons p r ih =>
    obtain ⟨k', v'⟩ := p
    simp only [ins]
    by_cases hk : k = k'
    · subst hk; simp [ins]
    · rw [beq_ne hk]
      cases hb : Nat.ble k k' with
      | true => simp [ins]
      | false => simp [ins, beq_ne hk, hb, ih]
theorem ins_comm {α : Type} {a b : Nat} (h : a ≠ b) (u v : α) (l : List (Nat × α)) : ins a u (ins b v l) = ins b v (ins a u l) := by
  have hab := beq_ne h
  have hba := beq_ne (fun e => h e.symm)
  have tri : ∀ x y : Nat, x ≠ y → Nat.ble x y = !(Nat.ble y x) := by
    intro x y hxy
    cases h1 : Nat.ble x y with
    | true =>
      have := Nat.le_of_ble_eq_true h1
      cases h2 : Nat.ble y x with
      | true => have := Nat.le_of_ble_eq_true h2; omega
      | false => rfl
    | false =>
      cases h2 : Nat.ble y x with
      | true => rfl
      | false =>
        have h3 : ¬ x ≤ y := fun hh => by rw [Nat.ble_eq_true_of_le hh] at h1; cases h1
        have h4 : ¬ y ≤ x := fun hh => by rw [Nat.ble_eq_true_of_le hh] at h2; cases h2
        omega
  have hle : ∀ {x y : Nat}, Nat.ble x y = true ↔ x ≤ y := fun {x y} => ⟨Nat.le_of_ble_eq_true, Nat.ble_eq_true_of_le⟩
  induction l with
  | nil =>
    simp only [ins, hab, hba, cond_false]
    rw [tri a b h]
    cases Nat.ble b a <;> rfl
  | cons p r ih =>
    obtain ⟨c, x⟩ := p
    by_cases hac : a = c
    · subst hac
      simp only [ins, hba, Nat.beq_refl, cond_true, cond_false]
      cases hb : Nat.ble b a with
      | true =>
        have hab2 : Nat.ble a b = false := by rw [tri a b h, hb]; rfl
        simp [ins, hab, hab2]
      | false => simp [ins]
    · by_cases hbc : b = c
      · subst hbc
        simp only [ins, hab, Nat.beq_refl, cond_true, cond_false]
        cases hb : Nat.ble a b with
        | true =>
          have hba2 : Nat.ble b a = false := by rw [tri b a (fun e => h e.symm), hb]; rfl
          simp [ins, hba, hba2]
        | false => simp [ins]
      · have h1 := beq_ne hac
        have h2 := beq_ne hbc
        simp only [ins, h1, h2, cond_false]
        cases ha : Nat.ble a c with
        | true =>
          cases hb : Nat.ble b c with
          | true =>
            simp only [cond_true, ins, hab, hba, h1, h2, ha, hb, cond_false]
            rw [tri a b h]
            cases Nat.ble b a <;> rfl
          | false =>
            have : Nat.ble b a = false := by
              cases hx : Nat.ble b a with
              | false => rfl
              | true => have e1 := hle.1 hx; have e2 := hle.1 ha; rw [hle.2 (Nat.le_trans e1 e2)] at hb; cases hb
            simp [ins, hba, h1, h2, ha, hb, this]
        | false =>
          cases hb : Nat.ble b c with
          | true =>
            have : Nat.ble a b = false := by
              cases hx : Nat.ble a b with
              | false => rfl
              | true => have e1 := hle.1 hx; have e2 := hle.1 hb; rw [hle.2 (Nat.le_trans e1 e2)] at ha; cases ha
            simp [ins, hab, h1, h2, ha, hb, this]
          | false => simp [ins, h1, h2, ha, hb, ih]
theorem lk_cons_same {α : Type} (l : List (Nat × α)) (n : Nat) (v : α) : lk ((n, v) :: l) n = some v := by simp [lk]
theorem lk_cons_ne {α : Type} (l : List (Nat × α)) (n m : Nat) (v : α) (h : m ≠ n) : lk ((n, v) :: l) m = lk l m := by
  have : Nat.beq n m = false := beq_ne fun e => h e.symm
  simp [lk, this]
theorem lk_map {α β : Type} (f : α → β) (l : List (Nat × α)) (n : Nat) : lk (l.map fun p => (p.1, f p.2)) n = (lk l n).map f := by
  induction l with
  | nil => rfl
  | cons p r ih =>
    obtain ⟨k, v⟩ := p
    simp only [List.map_cons, lk, ih]
    cases Nat.beq k n <;> rfl
theorem obj_of_lk {ob : Obs E} {n g : Nat} {o : Ob E} (h : lk ob n = some (g, o)) : objOf ob n g = some o := by simp [objOf, h]
theorem lk_of_obj {ob : Obs E} {n g : Nat} {o : Ob E} (h : objOf ob n g = some o) : lk ob n = some (g, o) := by
  unfold objOf at h
  split at h
  · rename_i g' o' he
    by_cases hg : g' = g
    · subst hg; simp at h; subst h; exact he
    · have : Nat.beq g' g = false := beq_ne hg
      simp [this] at h
  · cases h
theorem St.lk_putOb (s : St E) (n g m : Nat) (o : Ob E) : lk (s.putOb n g o).ob m = if m = n then some (g, o) else lk s.ob m := lk_ins _ _ _ _
structure Car (okP : Nat → Prop) (ob : Obs E) (A : Asg) (okS : Nat → Nat → Prop) (w : World) (ob' : Obs E) (A' : Asg) (okS' : Nat → Nat → Prop) (w' : World) : Prop where
  size : w.heap.size ≤ w'.heap.size
  ok : ∀ b k, okS b k → okS' b k
  cell : ∀ b k, okS b k → w'.cell? ⟨b, k, none⟩ = w.cell? ⟨b, k, none⟩
  block : ∀ b, b < w.heap.size → okP b → w'.heap[b]? = w.heap[b]?
  gen : ∀ n h o, lk ob n = some (h, o) → ∃ h' o', lk ob' n = some (h', o') ∧ h ≤ h'
  box : ∀ n g cs', Known ob n g → objOf ob' n g = some (.box cs') → ∃ cs, objOf ob n g = some (.box cs) ∧ A'.B n = A.B n
  tok : ∀ n g t (xs' : List (den E.Γ t)), Known ob n g → objOf ob' n g = some (.tok t xs') → ∃ xs : List (den E.Γ t), objOf ob n g = some (.tok t xs) ∧ xs'.length = xs.length ∧ A'.B n = A.B n ∧ A'.O n = A.O n ∧
    ∀ b cs e, A.B n = some b → w.heap[b]? = some (.cells cs e (0, 0)) → ∃ cs', w'.heap[b]? = some (.cells cs' e (0, 0)) ∧ cs'.size = cs.size
  frz : ∀ n g t (xs : List (den E.Γ t)), Known ob n g → objOf ob' n g = some (.frz t xs) → (objOf ob n g = some (.frz t xs) ∨
    (objOf ob n g = some (.tok t xs) ∧ ∀ win v, RepRef w A n (nc E t) xs.length win v → RepD E w' okS' (.slice t) (winOf xs win) [v])) ∧ A'.B n = A.B n ∧ A'.O n = A.O n ∧
    ∀ b cs e, A.B n = some b → w.heap[b]? = some (.cells cs e (0, 0)) → ∃ cs', w'.heap[b]? = some (.cells cs' e (0, 0)) ∧ cs'.size = cs.size
section
variable {okP : Nat → Prop} {ob : Obs E} {A : Asg} {okS : Nat → Nat → Prop} {w : World} {ob' : Obs E} {A' : Asg} {okS' : Nat → Nat → Prop} {w' : World}
theorem RepD.car (c : Car okP ob A okS w ob' A' okS' w') (hlt : ∀ b k, okS b k → b < w.heap.size) {t : Ty} {x : den E.Γ t} {cs : List Value} (h : RepD E w okS t x cs) : RepD E w' okS' t x cs :=
  h.mono c.ok c.size c.cell
theorem RepP.car (c : Car okP ob A okS w ob' A' okS' w') (hlt : ∀ b k, okS b k → b < w.heap.size) {t : Ty} {x : den E.Γ t} {off : Nat} {v : Value} (h : RepP E w okS okP t x off v) : RepP E w' okS' okP t x off v := by
  obtain ⟨b, o, cs, hv, hb, hl, hn, hc, hr⟩ := h
  refine ⟨b, o, cs, hv, hb.imp (fun h j hj => c.ok _ _ (h j hj)) id, Nat.lt_of_lt_of_le hl c.size, hn, fun j hj => ?_, hr.car c hlt⟩
  rw [← hc j hj]
  rcases hb with hb | hb
  · exact c.cell b _ (hb j hj)
  · exact World.cell?_of_block (w := w) (w' := w') (c.block b hl hb)
theorem Known.car (c : Car okP ob A okS w ob' A' okS' w') {n g : Nat} (h : Known ob n g) : Known ob' n g := by
  obtain ⟨h1, o, he, hg⟩ := h
  obtain ⟨h', o', he', hle⟩ := c.gen n h1 o he
  exact ⟨h', o', he', Nat.le_trans hg hle⟩
theorem RepCap.car (c : Car okP ob A okS w ob' A' okS' w') (hlt : ∀ b k, okS b k → b < w.heap.size) {k : Cap E} {v : Value} (h : RepCap w okS okP ob A k v) : RepCap w' okS' okP ob' A' k v := by
  cases k with
  | box n g =>
    obtain ⟨hk, h⟩ := h
    refine ⟨hk.car c, fun cs' he => ?_⟩
    obtain ⟨cs, h1, h2⟩ := c.box n g cs' hk he
    rw [h2]; exact h cs h1
  | ro t x => exact RepP.car c hlt h
theorem RepRef.car {n size len : Nat} {win : Option (Nat × Nat)} {v : Value} (hB : A'.B n = A.B n) (hO : A'.O n = A.O n)
    (hcs : ∀ b cs e, A.B n = some b → w.heap[b]? = some (.cells cs e (0, 0)) → ∃ cs', w'.heap[b]? = some (.cells cs' e (0, 0)) ∧ cs'.size = cs.size)
    (h : RepRef w A n size len win v) : RepRef w' A' n size len win v := by
  unfold RepRef at h ⊢
  rw [hB, hO]
  cases hb : A.B n with
  | none => simpa [hb] using h
  | some b =>
    simp only [hb] at h ⊢
    obtain ⟨o, cap, cs, e, hv, hw, h1, h2, h3, h4⟩ := h
    obtain ⟨cs', hw', hs⟩ := hcs b cs e hb hw
    exact ⟨o, cap, cs', e, hv, hw', h1, h2, h3, by rw [hs]; exact h4⟩
theorem RepCV.car (c : Car okP ob A okS w ob' A' okS' w') (hlt : ∀ b k, okS b k → b < w.heap.size) {k : CV E} {v : Value} (h : RepCV w okS okP ob A k v) : RepCV w' okS' okP ob' A' k v := by
  cases k with
  | dead => trivial
  | leaf t x => exact RepD.car c hlt h
  | nilS => exact h
  | nilP => exact h
  | ptr n g off =>
    obtain ⟨hk, h1, h⟩ := h
    refine ⟨hk.car c, h1, fun cs' he => ?_⟩
    obtain ⟨cs, h1, h2⟩ := c.box n g cs' hk he
    rw [h2]; exact h cs h1
  | ref n g win =>
    obtain ⟨⟨hk, h0⟩, h1, h2⟩ := h
    refine ⟨⟨hk.car c, h0⟩, fun t xs' he => ?_, fun t xs he => ?_⟩
    · obtain ⟨xs, hx, hl, hB, hO, hcs⟩ := c.tok n g t xs' hk he
      rw [hl]; exact RepRef.car hB hO hcs (h1 t xs hx)
    · obtain ⟨hh, hB, hO, hcs⟩ := c.frz n g t xs hk he
      rcases hh with hf | ⟨ht, hc⟩
      · obtain ⟨g1, g2⟩ := h2 t xs hf
        exact ⟨RepD.car c hlt g1, RepRef.car hB hO hcs g2⟩
      · exact ⟨hc win v (h1 t xs ht), RepRef.car hB hO hcs (h1 t xs ht)⟩
  | optr n g i off =>
    obtain ⟨hk, h1, h⟩ := h
    refine ⟨hk.car c, h1, fun t xs' he => ?_⟩
    obtain ⟨xs, hx, hl, hB, hO, _⟩ := c.tok n g t xs' hk he
    rw [hl, hB, hO]; exact h t xs hx
  | ro t x off => exact RepP.car c hlt h
  | fn f caps =>
    obtain ⟨vs, hv, h⟩ := h
    exact ⟨vs, hv, h.imp fun _ _ r => r.car c hlt⟩
  | fnd f l =>
    obtain ⟨vs, hv, h⟩ := h
    exact ⟨vs, hv, h.imp fun _ _ r => RepP.car c hlt r⟩
theorem RepPart.car (c : Car okP ob A okS w ob' A' okS' w') (hlt : ∀ b k, okS b k → b < w.heap.size) {p : Bool × List (CV E)} {v : Value} (h : RepPart w okS okP ob A p v) : RepPart w' okS' okP ob' A' p v := by
  obtain ⟨b, cs⟩ := p
  cases b with
  | true => obtain ⟨vs, hv, h⟩ := h; exact ⟨vs, hv, h.imp fun _ _ r => r.car c hlt⟩
  | false => obtain ⟨k, hk, h⟩ := h; exact ⟨k, hk, h.car c hlt⟩
theorem RepSV.car (c : Car okP ob A okS w ob' A' okS' w') (hlt : ∀ b k, okS b k → b < w.heap.size) {tmps : Array Value} {k : SV E} : ∀ {v : Value}, RepSV w okS okP ob A tmps k v → RepSV w' okS' okP ob' A' tmps k v := by
  induction k with
  | c k => intro v h; exact RepCV.car c hlt h
  | agg cs => intro v h; obtain ⟨vs, hv, h⟩ := h; exact ⟨vs, hv, h.imp fun _ _ r => r.car c hlt⟩
  | tup ps => intro v h; obtain ⟨vs, hv, h⟩ := h; exact ⟨vs, hv, h.imp fun _ _ r => r.car c hlt⟩
  | gl q b x ih => intro v h; exact ⟨fun hq => ih (h.1 hq), h.2⟩
theorem RepRow.car (c : Car okP ob A okS w ob' A' okS' w') (hlt : ∀ b k, okS b k → b < w.heap.size) {t : Ty} {xs : List (den E.Γ t)} {off : Nat} {cs : Array Value} (h : RepRow E w okS t xs off cs) : RepRow E w' okS' t xs off cs := by
  obtain ⟨f, h⟩ := h
  exact ⟨f, fun i hi => ⟨(h i hi).1, (h i hi).2.1, (h i hi).2.2.car c hlt⟩⟩
theorem RepOb.car (c : Car okP ob A okS w ob' A' okS' w') (hlt : ∀ b k, okS b k → b < w.heap.size) {n : Nat} {o : Ob E} (hB : A'.B n = A.B n) (hO : A'.O n = A.O n)
    (hb : ∀ b, A.B n = some b → isLive o = true → w'.heap[b]? = w.heap[b]?) (h : RepOb w okS okP ob A n o) : RepOb w' okS' okP ob' A' n o := by
  cases o with
  | box cs =>
    obtain ⟨b, vs, e, h1, h2, h3⟩ := h
    exact ⟨b, vs, e, by rw [hB]; exact h1, by rw [hb b h1 rfl]; exact h2, h3.imp fun _ _ r => r.car c hlt⟩
  | tok t xs =>
    unfold RepOb at h ⊢
    rw [hB, hO]
    cases hbn : A.B n with
    | none => simpa [hbn] using h
    | some b =>
      simp only [hbn] at h ⊢
      obtain ⟨cs, e, h1, h2⟩ := h
      exact ⟨cs, e, by rw [hb b hbn rfl]; exact h1, h2.car c hlt⟩
  | frz t xs =>
    unfold RepOb at h ⊢
    rw [hB]
    cases hbn : A.B n with
    | none => simpa [hbn] using h
    | some b =>
      simp only [hbn] at h ⊢
      obtain ⟨cs, e, h1⟩ := h
      exact ⟨cs, e, by rw [hb b hbn rfl]; exact h1⟩
  | gone => trivial
end
theorem Pin.block {C : FC} {A : Asg} {w w' : World} {n : Nat} {o : Ob E} (h : Pin C A w n o) (hb : ∀ b, b < w.heap.size → w'.heap[b]? = w.heap[b]?) : Pin C A w' n o := by
  have key : (∀ b cs e, A.B n = some b → C.w0.heap[b]? = some (.cells cs e (0, 0)) → ∃ cs', w.heap[b]? = some (.cells cs' e (0, 0)) ∧ cs'.size = cs.size) → ∀ b cs e, A.B n = some b → C.w0.heap[b]? = some (.cells cs e (0, 0)) → ∃ cs', w'.heap[b]? = some (.cells cs' e (0, 0)) ∧ cs'.size = cs.size := by
    intro hk b cs e h1 h2
    obtain ⟨cs', h3, h4⟩ := hk b cs e h1 h2
    have : b < w.heap.size := by
      rcases Nat.lt_or_ge b w.heap.size with h' | h'
      · exact h'
      · rw [Array.getElem?_eq_none h'] at h3; cases h3
    exact ⟨cs', by rw [hb b this]; exact h3, h4⟩
  cases o with
  | gone => trivial
  | box cs => exact h
  | tok t xs => exact ⟨h.1, h.2.1, key h.2.2⟩
  | frz t xs => exact ⟨h.1, h.2.1, key h.2.2⟩
theorem Inv.next {C : FC} {s s' : St E} {A A' : Asg} {okS okS' : Nat → Nat → Prop} {tmps : Array Value} {w w' : World} (I : Inv C s A okS tmps w)
    (c : Car C.okP s.ob A okS w s'.ob A' okS' w') (hsl : s'.sl = s.sl) (hn : s'.n = s.n)
    (hos : w'.os = w.os) (htape : w'.tape = w.tape) (hout : w'.output = w.output)
    (hblk : ∀ b, b < C.w0.heap.size → ¬ C.rw b → w'.heap[b]? = w.heap[b]?)
    (hlt : ∀ b k, okS' b k → b < w'.heap.size) (hsub : ∀ b k, okS' b k → C.okS b k ∨ C.w0.heap.size ≤ b ∨ C.rw b)
    (hobj : ∀ n g o, lk s'.ob n = some (g, o) → RepOb w' okS' C.okP s'.ob A' n o)
    (hown : ∀ n g o b, lk s'.ob n = some (g, o) → isLive o = true → A'.B n = some b → (∀ k, lim A' n o ≤ k → ¬ okS' b k) ∧ ¬ C.okP b ∧ b < w'.heap.size ∧ (C.w0.heap.size ≤ b ∨ C.rw b))
    (hinj : ∀ n m g h o p b, lk s'.ob n = some (g, o) → lk s'.ob m = some (h, p) → isLive o = true → isLive p = true → A'.B n = some b → A'.B m = some b → n = m)
    (hpin : ∀ n g o, pinned n → lk s'.ob n = some (g, o) → g = 0 ∧ Pin C A' w' n o) :
    Inv C s' A' okS' tmps w' where
  os := hos.trans I.os
  tape := htape.trans I.tape
  output := hout.trans I.output
  size := Nat.le_trans I.size c.size
  block := fun b hb hr => (hblk b hb hr).trans (I.block b hb hr)
  okLt := hlt
  okSub := hsub
  okPLt := I.okPLt
  obj := hobj
  own := hown
  inj := hinj
  sl := fun n v hv => (I.sl n v (hsl ▸ hv)).car c I.okLt
  tmps := I.tmps.trans hn.symm
  small := hn ▸ I.small
  pin := hpin
theorem RepSV.setOther {w : World} {okS : Nat → Nat → Prop} {okP : Nat → Prop} {ob : Obs E} {A : Asg} {tmps : Array Value} {d : Nat} (x : Value) {k : SV E} :
    ∀ {v : Value}, RepSV w okS okP ob A tmps k v → RepSV w okS okP ob A (tmps.setIfInBounds d x) (dropG d k) v := by
  induction k with
  | c k => intro v h; exact h
  | agg cs => intro v h; exact h
  | tup ps => intro v h; exact h
  | gl q b y ih =>
    intro v h
    simp only [dropG]
    by_cases hq : q = d
    · subst hq; simp; trivial
    · have : Nat.beq q d = false := beq_ne hq
      simp only [this, cond_false]
      have he : (tmps.setIfInBounds d x).getD q undef = tmps.getD q undef := by
        simp [Array.getD_eq_getD_getElem?, Array.getElem?_setIfInBounds_ne (show d ≠ q from fun e => hq e.symm)]
      simp only [RepSV, he]
      exact ⟨fun hb => ih (h.1 hb), h.2⟩
theorem lk_set (s : St E) (d m : Nat) (v : SV E) : lk (s.set d v).sl m = if m = d then some v else (lk s.sl m).map (dropG d) := by
  unfold St.set
  rw [lk_ins, lk_map]
theorem Inv.set {C : FC} {s : St E} {A : Asg} {okS : Nat → Nat → Prop} {tmps : Array Value} {w : World} (I : Inv C s A okS tmps w) {d : Nat} (hd : d < s.n) {k : SV E} {v : Value}
    (h : RepSV w okS C.okP s.ob A (tmps.setIfInBounds d v) k v) : Inv C (s.set d k) A okS (tmps.setIfInBounds d v) w where
  os := I.os
  tape := I.tape
  output := I.output
  size := I.size
  block := I.block
  okLt := I.okLt
  okSub := I.okSub
  okPLt := I.okPLt
  obj := I.obj
  own := I.own
  inj := I.inj
  sl := fun n x hx => by
    rw [lk_set] at hx
    by_cases hn : n = d
    · subst hn
      simp only [if_true] at hx
      injection hx with hx; subst hx
      have : (tmps.setIfInBounds n v).getD n undef = v := by
        rw [Array.getD_eq_getD_getElem?, Array.getElem?_setIfInBounds_self_of_lt (by rw [I.tmps]; exact hd)]; rfl
      rw [this]; exact h
    · simp only [hn, if_false] at hx
      cases hl : lk s.sl n with
      | none => rw [hl] at hx; cases hx
      | some y =>
        rw [hl] at hx; injection hx with hx; subst hx
        have : (tmps.setIfInBounds d v).getD n undef = tmps.getD n undef := by
          simp [Array.getD_eq_getD_getElem?, Array.getElem?_setIfInBounds_ne (show d ≠ n from fun e => hn e.symm)]
        rw [this]
        exact RepSV.setOther v (I.sl n y hl)
  tmps := by rw [Array.size_setIfInBounds]; exact I.tmps
  small := I.small
  pin := I.pin
end Go.Proofs.AM

namespace Go.Proofs.AM
open Go Go.RowKit
variable {E : Env}
def Comp (E : Env) (w : World) (A : Asg) (okS' : Nat → Nat → Prop) (w' : World) (A' : Asg) (n : Nat) (o : Ob E) : Ob E → Prop
  | .box _ => (∃ cs, o = .box cs) ∧ A'.B n = A.B n
  | .tok t xs' => ∃ xs, o = .tok t xs ∧ xs'.length = xs.length ∧ A'.B n = A.B n ∧ A'.O n = A.O n ∧
      ∀ b cs e, A.B n = some b → w.heap[b]? = some (.cells cs e (0, 0)) → ∃ cs', w'.heap[b]? = some (.cells cs' e (0, 0)) ∧ cs'.size = cs.size
  | .frz t xs => (o = .frz t xs ∨ (o = .tok t xs ∧ ∀ win v, RepRef w A n (nc E t) xs.length win v → RepD E w' okS' (.slice t) (winOf xs win) [v])) ∧ A'.B n = A.B n ∧ A'.O n = A.O n ∧
      ∀ b cs e, A.B n = some b → w.heap[b]? = some (.cells cs e (0, 0)) → ∃ cs', w'.heap[b]? = some (.cells cs' e (0, 0)) ∧ cs'.size = cs.size
  | .gone => True
theorem heap_lt {w : World} {b : Nat} {o : Obj} (h : w.heap[b]? = some o) : b < w.heap.size := by
  rcases Nat.lt_or_ge b w.heap.size with h' | h'
  · exact h'
  · rw [Array.getElem?_eq_none h'] at h; cases h
theorem RepOb.blk {w : World} {okS : Nat → Nat → Prop} {okP : Nat → Prop} {ob : Obs E} {A : Asg} {n : Nat} {o : Ob E} (h : RepOb w okS okP ob A n o) (hl : isLive o = true) {b : Nat} (hb : A.B n = some b) :
    ∃ cs e, w.heap[b]? = some (.cells cs e (0, 0)) := by
  cases o with
  | box cs => obtain ⟨b', vs, e, h1, h2, _⟩ := h; rw [hb] at h1; cases h1; exact ⟨_, _, h2⟩
  | tok t xs => unfold RepOb at h; simp only [hb] at h; obtain ⟨cs, e, h1, _⟩ := h; exact ⟨_, _, h1⟩
  | frz t xs => unfold RepOb at h; simp only [hb] at h; exact h
  | gone => cases hl
structure Keeps (okP : Nat → Prop) (ob : Obs E) (A : Asg) (okS : Nat → Nat → Prop) (w : World) (ob' : Obs E) (A' : Asg) (okS' : Nat → Nat → Prop) (w' : World) : Prop where
  cv : ∀ (c : CV E) v, RepCV w okS okP ob A c v → RepCV w' okS' okP ob' A' c v
  dat : ∀ t (x : den E.Γ t) cs, RepD E w okS t x cs → RepD E w' okS' t x cs
  ok : ∀ b k, okS b k → okS' b k
  size : w.heap.size ≤ w'.heap.size
theorem Keeps.refl (okP : Nat → Prop) (ob : Obs E) (A : Asg) (okS : Nat → Nat → Prop) (w : World) : Keeps okP ob A okS w ob A okS w :=
  ⟨fun _ _ h => h, fun _ _ _ h => h, fun _ _ h => h, Nat.le_refl _⟩
theorem Keeps.trans {okP : Nat → Prop} {ob ob' ob'' : Obs E} {A A' A'' : Asg} {okS okS' okS'' : Nat → Nat → Prop} {w w' w'' : World} (h : Keeps okP ob A okS w ob' A' okS' w')
    (k : Keeps okP ob' A' okS' w' ob'' A'' okS'' w'') : Keeps okP ob A okS w ob'' A'' okS'' w'' :=
  ⟨fun c v r => k.cv c v (h.cv c v r), fun t x cs r => k.dat t x cs (h.dat t x cs r), fun b i r => k.ok b i (h.ok b i r), Nat.le_trans h.size k.size⟩
theorem Car.keeps {okP : Nat → Prop} {ob ob' : Obs E} {A A' : Asg} {okS okS' : Nat → Nat → Prop} {w w' : World} (c : Car okP ob A okS w ob' A' okS' w') (hlt : ∀ b k, okS b k → b < w.heap.size) :
    Keeps okP ob A okS w ob' A' okS' w' := ⟨fun _ _ h => h.car c hlt, fun _ _ _ h => h.car c hlt, c.ok, c.size⟩
theorem Inv.upd {C : FC} {s : St E} {A A' : Asg} {okS okS' : Nat → Nat → Prop} {tmps : Array Value} {w w' : World} (I : Inv C s A okS tmps w) {n g : Nat} {o' : Ob E}
    (hA : ∀ m, m ≠ n → A'.B m = A.B m ∧ A'.O m = A.O m)
    (hun : pinned n → ∃ o, lk s.ob n = some (g, o))
    (hgen : ∀ h o, lk s.ob n = some (h, o) → h ≤ g)
    (hsize : w.heap.size ≤ w'.heap.size) (hos : w'.os = w.os) (htape : w'.tape = w.tape) (hout : w'.output = w.output)
    (hblk : ∀ b, b < w.heap.size → (∀ h o, lk s.ob n = some (h, o) → isLive o = true → A.B n ≠ some b) → w'.heap[b]? = w.heap[b]?)
    (hfz : ∀ b k, okS b k → A.B n = some b → w'.cell? ⟨b, k, none⟩ = w.cell? ⟨b, k, none⟩)
    (hok : ∀ b k, okS b k → okS' b k) (hlt : ∀ b k, okS' b k → b < w'.heap.size) (hsub : ∀ b k, okS' b k → C.okS b k ∨ C.w0.heap.size ≤ b ∨ C.rw b)
    (hdis : ∀ b k, okS' b k → ¬ okS b k → ∀ m h o, m ≠ n → lk s.ob m = some (h, o) → isLive o = true → A.B m ≠ some b)
    (hcomp : ∀ o, lk s.ob n = some (g, o) → Comp E w A okS' w' A' n o o')
    (hob : Keeps C.okP s.ob A okS w (s.putOb n g o').ob A' okS' w' → RepOb w' okS' C.okP (s.putOb n g o').ob A' n o')
    (hown : isLive o' = true → ∀ b, A'.B n = some b → (∀ k, lim A' n o' ≤ k → ¬ okS' b k) ∧ ¬ C.okP b ∧ b < w'.heap.size ∧ (C.w0.heap.size ≤ b ∨ C.rw b) ∧
      ∀ m h o, m ≠ n → lk s.ob m = some (h, o) → isLive o = true → A.B m ≠ some b) :
    Inv C (s.putOb n g o') A' okS' tmps w' ∧ Keeps C.okP s.ob A okS w (s.putOb n g o').ob A' okS' w' := by
  have keepP : ∀ b, b < w.heap.size → C.okP b → w'.heap[b]? = w.heap[b]? := fun b hbl hb => hblk b hbl fun h o hl hlv hB => (I.own n h o b hl hlv hB).2.1 hb
  have keepC : ∀ b k, okS b k → w'.cell? ⟨b, k, none⟩ = w.cell? ⟨b, k, none⟩ := by
    intro b k hb
    by_cases hB : A.B n = some b
    · exact hfz b k hb hB
    · exact World.cell?_of_block (w := w) (w' := w') (hblk b (I.okLt b k hb) fun _ _ _ _ => hB)
  have car : Car C.okP s.ob A okS w (s.putOb n g o').ob A' okS' w' := by
    refine ⟨hsize, hok, keepC, fun b hb hbb => keepP b hb hbb, fun m h o hm => ?_, ?_, ?_, ?_⟩
    · rw [St.lk_putOb]
      by_cases hmn : m = n
      · subst hmn; simp only [if_true]; exact ⟨g, o', rfl, hgen h o hm⟩
      · simp only [hmn, if_false]; exact ⟨h, o, hm, Nat.le_refl _⟩
    · intro m h cs' hk ho
      have hl := lk_of_obj ho
      rw [St.lk_putOb] at hl
      by_cases hmn : m = n
      · subst hmn
        simp only [if_true] at hl
        injection hl with hl; injection hl with h1 h2; subst h1; subst h2
        obtain ⟨h', o, he, hle⟩ := hk
        have : h' = g := Nat.le_antisymm (hgen _ _ he) hle
        subst this
        obtain ⟨⟨cs, hc⟩, hB⟩ := hcomp o he
        subst hc
        exact ⟨cs, obj_of_lk he, hB⟩
      · simp only [hmn, if_false] at hl
        exact ⟨cs', obj_of_lk hl, (hA m hmn).1⟩
    · intro m h t xs' hk ho
      have hl := lk_of_obj ho
      rw [St.lk_putOb] at hl
      by_cases hmn : m = n
      · subst hmn
        simp only [if_true] at hl
        injection hl with hl; injection hl with h1 h2; subst h1; subst h2
        obtain ⟨h', o, he, hle⟩ := hk
        have : h' = g := Nat.le_antisymm (hgen _ _ he) hle
        subst this
        obtain ⟨xs, hx, h1, h2, h3, h4⟩ := hcomp o he
        subst hx
        exact ⟨xs, obj_of_lk he, h1, h2, h3, h4⟩
      · simp only [hmn, if_false] at hl
        refine ⟨xs', obj_of_lk hl, rfl, (hA m hmn).1, (hA m hmn).2, fun b cs e hB hc => ⟨cs, ?_, rfl⟩⟩
        rw [hblk b (heap_lt hc) fun h2 o2 hl2 hlv2 hB2 => hmn (I.inj m n h h2 _ o2 b hl hl2 rfl hlv2 hB hB2)]
        exact hc
    · intro m h t xs hk ho
      have hl := lk_of_obj ho
      rw [St.lk_putOb] at hl
      by_cases hmn : m = n
      · subst hmn
        simp only [if_true] at hl
        injection hl with hl; injection hl with h1 h2; subst h1; subst h2
        obtain ⟨h', o, he, hle⟩ := hk
        have : h' = g := Nat.le_antisymm (hgen _ _ he) hle
        subst this
        obtain ⟨hc, h1, h2, h3⟩ := hcomp o he
        rcases hc with hc | ⟨hc, hr⟩
        · subst hc; exact ⟨.inl (obj_of_lk he), h1, h2, h3⟩
        · subst hc; exact ⟨.inr ⟨obj_of_lk he, hr⟩, h1, h2, h3⟩
      · simp only [hmn, if_false] at hl
        refine ⟨.inl (obj_of_lk hl), (hA m hmn).1, (hA m hmn).2, fun b cs e hB hc => ⟨cs, ?_, rfl⟩⟩
        rw [hblk b (heap_lt hc) fun h2 o2 hl2 hlv2 hB2 => hmn (I.inj m n h h2 _ o2 b hl hl2 rfl hlv2 hB hB2)]
        exact hc
  refine ⟨I.next car rfl rfl hos htape hout (fun b hb hr => hblk b (Nat.lt_of_lt_of_le hb I.size) fun h o hl hlv hB => ?_) hlt hsub ?_ ?_ ?_ ?_, car.keeps I.okLt⟩
  · rcases (I.own n h o b hl hlv hB).2.2.2 with h | h
    · omega
    · exact hr h
  · intro m h o hl
    rw [St.lk_putOb] at hl
    by_cases hmn : m = n
    · subst hmn
      simp only [if_true] at hl
      injection hl with hl; injection hl with h1 h2; subst h1; subst h2
      exact hob (car.keeps I.okLt)
    · simp only [hmn, if_false] at hl
      refine (I.obj m h o hl).car car I.okLt (hA m hmn).1 (hA m hmn).2 fun b hB hlv => hblk b (I.own m h o b hl hlv hB).2.2.1 fun h2 o2 hl2 hlv2 hB2 => ?_
      exact hmn (I.inj m n h h2 o o2 b hl hl2 hlv hlv2 hB hB2)
  · intro m h o b hl hlv hB
    rw [St.lk_putOb] at hl
    by_cases hmn : m = n
    · subst hmn
      simp only [if_true] at hl
      injection hl with hl; injection hl with h1 h2; subst h1; subst h2
      obtain ⟨a1, a2, a3, a4, _⟩ := hown hlv b hB
      exact ⟨a1, a2, a3, a4⟩
    · simp only [hmn, if_false] at hl
      rw [(hA m hmn).1] at hB
      obtain ⟨a1, a2, a3, a4⟩ := I.own m h o b hl hlv hB
      refine ⟨fun k hk hb => ?_, a2, Nat.lt_of_lt_of_le a3 hsize, a4⟩
      have hlim : lim A m o ≤ k := by cases o <;> first | exact Nat.zero_le _ | (simp only [lim, (hA m hmn).2] at hk ⊢; exact hk)
      exact hdis b k hb (a1 k hlim) m h o hmn hl hlv hB
  · intro m1 m2 h1 h2 o1 o2 b hl1 hl2 hv1 hv2 hB1 hB2
    rw [St.lk_putOb] at hl1 hl2
    by_cases hm1 : m1 = n
    · by_cases hm2 : m2 = n
      · rw [hm1, hm2]
      · subst hm1
        simp only [if_true] at hl1
        injection hl1 with hl1; injection hl1 with e1 e2; subst e1; subst e2
        simp only [hm2, if_false] at hl2
        rw [(hA m2 hm2).1] at hB2
        exact absurd hB2 ((hown hv1 b hB1).2.2.2.2 m2 h2 o2 hm2 hl2 hv2)
    · by_cases hm2 : m2 = n
      · subst hm2
        simp only [if_true] at hl2
        injection hl2 with hl2; injection hl2 with e1 e2; subst e1; subst e2
        simp only [hm1, if_false] at hl1
        rw [(hA m1 hm1).1] at hB1
        exact absurd hB1 ((hown hv2 b hB2).2.2.2.2 m1 h1 o1 hm1 hl1 hv1)
      · simp only [hm1, if_false] at hl1
        simp only [hm2, if_false] at hl2
        rw [(hA m1 hm1).1] at hB1
        rw [(hA m2 hm2).1] at hB2
        exact I.inj m1 m2 h1 h2 o1 o2 b hl1 hl2 hv1 hv2 hB1 hB2
  · intro m h o hp hl
    rw [St.lk_putOb] at hl
    by_cases hmn : m = n
    · subst hmn
      simp only [if_true] at hl
      injection hl with hl; injection hl with e1 e2; subst e1; subst e2
      obtain ⟨o1, hl1⟩ := hun hp
      obtain ⟨hg, hP⟩ := I.pin m g o1 hp hl1
      refine ⟨hg, ?_⟩
      have hc := hcomp o1 hl1
      cases o' with
      | gone => trivial
      | box cs =>
        obtain ⟨⟨cs1, e1⟩, hB⟩ := hc
        subst e1
        exact hB.trans hP
      | tok t xs =>
        obtain ⟨xs1, e1, _, hB, hO, hs⟩ := hc
        subst e1
        refine ⟨hB.trans hP.1, hO.trans hP.2.1, fun b cs e hb hc => ?_⟩
        rw [hB] at hb
        obtain ⟨cs1, hw1, hs1⟩ := hP.2.2 b cs e hb hc
        obtain ⟨cs2, hw2, hs2⟩ := hs b cs1 e hb hw1
        exact ⟨cs2, hw2, hs2.trans hs1⟩
      | frz t xs =>
        obtain ⟨hc, hB, hO, hs⟩ := hc
        have hP' : A.B m = C.A0.B m ∧ A.O m = C.A0.O m ∧ ∀ b cs e, A.B m = some b → C.w0.heap[b]? = some (.cells cs e (0, 0)) → ∃ cs', w.heap[b]? = some (.cells cs' e (0, 0)) ∧ cs'.size = cs.size := by
          rcases hc with e1 | ⟨e1, _⟩ <;> (subst e1; exact hP)
        refine ⟨hB.trans hP'.1, hO.trans hP'.2.1, fun b cs e hb hc => ?_⟩
        rw [hB] at hb
        obtain ⟨cs1, hw1, hs1⟩ := hP'.2.2 b cs e hb hc
        obtain ⟨cs2, hw2, hs2⟩ := hs b cs1 e hb hw1
        exact ⟨cs2, hw2, hs2.trans hs1⟩
    · simp only [hmn, if_false] at hl
      obtain ⟨hg, hP⟩ := I.pin m h o hp hl
      refine ⟨hg, ?_⟩
      have hb' : isLive o = true → ∀ b, A.B m = some b → w'.heap[b]? = w.heap[b]? := fun hlv b hB => hblk b (I.own m h o b hl hlv hB).2.2.1 fun h2 o2 hl2 hlv2 hB2 => hmn (I.inj m n h h2 o o2 b hl hl2 hlv hlv2 hB hB2)
      cases o with
      | gone => trivial
      | box cs => exact (hA m hmn).1.trans hP
      | tok t xs =>
        refine ⟨(hA m hmn).1.trans hP.1, (hA m hmn).2.trans hP.2.1, fun b cs e hb hc => ?_⟩
        rw [(hA m hmn).1] at hb
        rw [hb' rfl b hb]
        exact hP.2.2 b cs e hb hc
      | frz t xs =>
        refine ⟨(hA m hmn).1.trans hP.1, (hA m hmn).2.trans hP.2.1, fun b cs e hb hc => ?_⟩
        rw [(hA m hmn).1] at hb
        rw [hb' rfl b hb]
        exact hP.2.2 b cs e hb hc
theorem St.gen_gt {s : St E} {n h : Nat} {o : Ob E} (hl : lk s.ob n = some (h, o)) : s.gen n = h + 1 := by simp [St.gen, hl]
def Asg.at (A : Asg) (n : Nat) (b : Option Nat) (off : Nat) : Asg := ⟨fun m => if m = n then b else A.B m, fun m => if m = n then off else A.O m⟩
@[simp] theorem Asg.at_B (A : Asg) (n : Nat) (b : Option Nat) (off : Nat) : (A.at n b off).B n = b := by simp [Asg.at]
@[simp] theorem Asg.at_O (A : Asg) (n : Nat) (b : Option Nat) (off : Nat) : (A.at n b off).O n = off := by simp [Asg.at]
theorem Asg.at_ne (A : Asg) {n m : Nat} (b : Option Nat) (off : Nat) (h : m ≠ n) : (A.at n b off).B m = A.B m ∧ (A.at n b off).O m = A.O m := by simp [Asg.at, h]
theorem heap_alloc_new (w : World) (o : Obj) : (w.alloc o).heap[w.heap.size]? = some o := by
  show (w.heap.push o)[w.heap.size]? = _
  simp
theorem Inv.fresh {C : FC} {s : St E} {A : Asg} {okS : Nat → Nat → Prop} {tmps : Array Value} {w : World} (I : Inv C s A okS tmps w) {n : Nat} (hun : ¬ pinned n) {o : Ob E} {cs : Array Value} {e : TypeId}
    (hob : Keeps C.okP s.ob A okS w (s.fresh n o).ob (A.at n (some w.heap.size) 0) okS (w.alloc (.cells cs e)) → RepOb (w.alloc (.cells cs e)) okS C.okP (s.fresh n o).ob (A.at n (some w.heap.size) 0) n o) :
    Inv C (s.fresh n o) (A.at n (some w.heap.size) 0) okS tmps (w.alloc (.cells cs e)) ∧ Keeps C.okP s.ob A okS w (s.fresh n o).ob (A.at n (some w.heap.size) 0) okS (w.alloc (.cells cs e)) := by
  refine I.upd (fun m hm => Asg.at_ne _ _ _ hm) (fun h => absurd h hun) (fun h o hl => by rw [St.gen_gt hl]; omega) (by simp) rfl rfl rfl (fun b hb _ => Below.heap_alloc _ _ _ hb)
    (fun b k hb _ => World.cell?_of_block (Below.heap_alloc _ _ _ (I.okLt b k hb))) (fun _ _ h => h) (fun b k hb => Nat.lt_of_lt_of_le (I.okLt b k hb) (by simp)) I.okSub (fun b k h1 h2 => absurd h1 h2) (fun o hl => by have := St.gen_gt hl; omega) hob ?_
  intro _ b hb
  simp at hb
  subst hb
  refine ⟨fun k _ h => Nat.lt_irrefl _ (I.okLt _ k h), fun h => Nat.lt_irrefl _ (Nat.lt_of_lt_of_le (I.okPLt _ h).1 I.size), by simp, .inl I.size, fun m h o hm hl hlv hB => ?_⟩
  exact Nat.lt_irrefl _ (I.own m h o _ hl hlv hB).2.2.1
theorem Inv.freshNil {C : FC} {s : St E} {A : Asg} {okS : Nat → Nat → Prop} {tmps : Array Value} {w : World} (I : Inv C s A okS tmps w) {n : Nat} (hun : ¬ pinned n) (t : Ty) :
    Inv C (s.fresh n (.tok t [])) (A.at n none 0) okS tmps w ∧ Keeps C.okP s.ob A okS w (s.fresh n (.tok t [])).ob (A.at n none 0) okS w := by
  refine I.upd (fun m hm => Asg.at_ne _ _ _ hm) (fun h => absurd h hun) (fun h o hl => by rw [St.gen_gt hl]; omega) (Nat.le_refl _) rfl rfl rfl (fun _ _ _ => rfl)
    (fun _ _ _ _ => rfl) (fun _ _ h => h) I.okLt I.okSub (fun b k h1 h2 => absurd h1 h2) (fun o hl => by have := St.gen_gt hl; omega) ?_ ?_
  · intro _; simp [RepOb]
  · intro _ b hb; simp at hb
theorem Inv.kill {C : FC} {s : St E} {A : Asg} {okS : Nat → Nat → Prop} {tmps : Array Value} {w : World} (I : Inv C s A okS tmps w) {n g : Nat} {o : Ob E} (hl : lk s.ob n = some (g, o)) :
    Inv C (s.kill n g) A okS tmps w ∧ Keeps C.okP s.ob A okS w (s.kill n g).ob A okS w :=
  I.upd (fun _ _ => ⟨rfl, rfl⟩) (fun _ => ⟨o, hl⟩) (fun h o' hl' => by rw [hl] at hl'; cases hl'; exact Nat.le_refl _) (Nat.le_refl _) rfl rfl rfl (fun _ _ _ => rfl)
    (fun _ _ _ _ => rfl) (fun _ _ h => h) I.okLt I.okSub (fun b k h1 h2 => absurd h1 h2) (fun _ _ => trivial) (fun _ => trivial) (fun h => by cases h)
theorem Inv.write {C : FC} {s : St E} {A : Asg} {okS : Nat → Nat → Prop} {tmps : Array Value} {w w' : World} (I : Inv C s A okS tmps w) {n g b : Nat} {o o' : Ob E} (hl : lk s.ob n = some (g, o)) (hlv : isLive o = true) (hz : lim A n o = 0)
    (hB : A.B n = some b) (hsize : w'.heap.size = w.heap.size) (hos : w'.os = w.os) (htape : w'.tape = w.tape) (hout : w'.output = w.output)
    (hblk : ∀ k, k ≠ b → w'.heap[k]? = w.heap[k]?) (hcomp : Comp E w A okS w' A n o o') (hlv' : isLive o' = true)
    (hob : Keeps C.okP s.ob A okS w (s.putOb n g o').ob A okS w' → RepOb w' okS C.okP (s.putOb n g o').ob A n o') : Inv C (s.putOb n g o') A okS tmps w' ∧ Keeps C.okP s.ob A okS w (s.putOb n g o').ob A okS w' := by
  have hI := I.own n g o b hl hlv hB
  rw [hz] at hI
  refine I.upd (fun _ _ => ⟨rfl, rfl⟩) (fun _ => ⟨o, hl⟩) (fun h o1 hl1 => by rw [hl] at hl1; cases hl1; exact Nat.le_refl _) (by omega) hos htape hout
    (fun k _ hk => hblk k fun e => hk g o hl hlv (e ▸ hB)) (fun b' k hk hB' => by rw [hB] at hB'; cases hB'; exact absurd hk (hI.1 k (Nat.zero_le _))) (fun _ _ h => h) (fun k i hk => by rw [hsize]; exact I.okLt k i hk) I.okSub (fun b k h1 h2 => absurd h1 h2)
    (fun o1 hl1 => by rw [hl] at hl1; cases hl1; exact hcomp) hob ?_
  intro _ b' hb'
  rw [hB] at hb'
  cases hb'
  exact ⟨fun k _ => hI.1 k (Nat.zero_le _), hI.2.1, by rw [hsize]; exact hI.2.2.1, hI.2.2.2, fun m h o2 hm hl2 hlv2 hB2 => hm (I.inj m n h g o2 o b hl2 hl hlv2 hlv hB2 hB)⟩
end Go.Proofs.AM

namespace Go.Proofs.AM
open Go Go.RowKit
variable {E : Env}
theorem winOf_length {α : Type} (xs : List α) (win : Option (Nat × Nat)) (h : winLo win + winLen xs.length win ≤ xs.length) : (winOf xs win).length = winLen xs.length win := by
  cases win with
  | none => rfl
  | some p => obtain ⟨lo, len⟩ := p; simp only [winLo, winLen] at h; simp only [winOf, winLen, List.length_take, List.length_drop]; omega
theorem winOf_get {α : Type} (xs : List α) (win : Option (Nat × Nat)) (i : Nat) (hi : i < (winOf xs win).length) : ∃ h : winLo win + i < xs.length, (winOf xs win)[i] = xs[winLo win + i] := by
  cases win with
  | none => exact ⟨by simpa [winOf, winLo] using hi, by simp [winOf, winLo]⟩
  | some p =>
    obtain ⟨lo, len⟩ := p
    simp only [winOf, List.length_take, List.length_drop] at hi
    exact ⟨by simp only [winLo]; omega, by simp [winOf, winLo]⟩
theorem cell?_of_heap {w : World} {b : Nat} {cs : Array Value} {e : TypeId} {fz : Nat × Nat} (h : w.heap[b]? = some (.cells cs e fz)) (k : Nat) : w.cell? ⟨b, k, none⟩ = cs[k]? := by
  simp [World.cell?, h]
theorem RepRef.data {w : World} {okS ok : Nat → Nat → Prop} {okP : Nat → Prop} {ob : Obs E} {A : Asg} {n : Nat} {t : Ty} {xs : List (den E.Γ t)} {win : Option (Nat × Nat)} {v : Value}
    (hob : RepOb w okS okP ob A n (.tok t xs)) (h : RepRef w A n (nc E t) xs.length win v) (hok : ∀ b k, okS b k → ok b k) (hB : ∀ b, A.B n = some b → ∀ k, A.O n ≤ k → k < A.O n + xs.length * nc E t → ok b k) :
    RepD E w ok (.slice t) (winOf xs win) [v] := by
  unfold RepRef at h
  unfold RepOb at hob
  cases hb : A.B n with
  | none =>
    simp only [hb] at h hob
    subst hob
    rw [h.1]
    have : winOf ([] : List (den E.Γ t)) win = [] := by cases win with
      | none => rfl
      | some p => simp [winOf]
    rw [this]; exact .nil _
  | some b =>
    simp only [hb] at h hob
    obtain ⟨o, cap, cs, e, hv, hw, h1, h2, h3, h4⟩ := h
    obtain ⟨cs', e', hw', f, hf⟩ := hob
    rw [hw] at hw'
    injection hw' with hw'; injection hw' with hc he _; subst hc
    have hl := winOf_length xs win h1
    rw [hv, ← hl]
    refine .slice b o cap (winOf xs win) (fun i => f (winLo win + i)) (fun k hk => ?_) (by omega) (heap_lt hw) (fun i hi => ?_) (fun i hi => ?_)
    · rw [hl] at hk
      rcases h3 with h3 | h3
      · have : winLen xs.length win = 0 := by omega
        rw [this] at hk; simp at hk
      · refine hB b hb _ (by omega) ?_
        have := Nat.mul_le_mul_right (nc E t) h1
        rw [Nat.add_mul] at this
        omega
    · obtain ⟨hx, _⟩ := winOf_get xs win i hi
      obtain ⟨a1, a2, _⟩ := hf _ hx
      refine ⟨a1, fun j hj => ?_⟩
      rw [cell?_of_heap hw]
      have hoff : o = A.O n + winLo win * nc E t := by
        rcases h3 with h3 | h3
        · omega
        · exact h3
      have := a2 j hj
      rw [← this, hoff, Nat.add_mul]
      congr 1
      omega
    · obtain ⟨hx, hget⟩ := winOf_get xs win i hi
      rw [hget]
      exact (hf _ hx).2.2.mono hok (Nat.le_refl _) (fun _ _ _ => rfl)
def okAll (ob : Obs E) (A : Asg) (okS : Nat → Nat → Prop) (b k : Nat) : Prop := okS b k ∨ ∃ n g t xs, lk ob n = some (g, Ob.tok t xs) ∧ A.B n = some b
def RepL (E : Env) (w : World) (ok : Nat → Nat → Prop) (c : CV E) (v : Value) : Prop :=
  match c with
  | .leaf t x => RepD E w ok t x [v]
  | .nilS => v = .slice none 0 0
  | _ => True
theorem RepCV.look {C : FC} {s : St E} {A : Asg} {okS : Nat → Nat → Prop} {tmps : Array Value} {w : World} (I : Inv C s A okS tmps w) {c : CV E} {v : Value}
    (h : RepCV w okS C.okP s.ob A c v) : RepL E w (okAll s.ob A okS) (s.look c) v := by
  cases c with
  | ref n g win =>
    simp only [St.look]
    split
    · rename_i t xs ho
      have hl := lk_of_obj (ob := s.ob) ho
      exact (h.2.1 t xs ho).data (I.obj n g _ hl) (fun b k hb => .inl hb) (fun b hb k _ _ => .inr ⟨n, g, t, xs, hl, hb⟩)
    · rename_i t xs ho
      exact (h.2.2 t xs ho).1.mono (fun b k hb => .inl hb) (Nat.le_refl _) (fun _ _ _ => rfl)
    · trivial
  | leaf t x => exact RepD.mono (fun b k hb => .inl hb) (Nat.le_refl _) (fun _ _ _ => rfl) h
  | nilS => exact h
  | _ => trivial
theorem asSl_rep {w : World} {ok : Nat → Nat → Prop} {t t' : Ty} {y : den E.Γ t'} {x : den E.Γ t} {vs : List Value} (h : RepD E w ok t' y vs) (hx : asSl t t' y = some x) : RepD E w ok t x vs := by
  unfold asSl at hx
  split at hx
  · split at hx
    · rename_i he; subst he; injection hx with hx; subst hx; exact h.toSlice
    · cases hx
  · split at hx
    · rename_i he; subst he; injection hx with hx; subst hx; exact .osome h
    · cases hx
  · cases hx
theorem leafOf_rep {w : World} {ok : Nat → Nat → Prop} {t : Ty} {c : CV E} {v : Value} {x : den E.Γ t} (h : RepL E w ok c v) (hx : leafOf t c = some x) : RepD E w ok t x [v] := by
  cases c with
  | leaf t' y =>
    simp only [leafOf] at hx
    split at hx
    · rename_i he; subst he; injection hx with hx; subst hx; exact h
    · exact asSl_rep h hx
  | nilS =>
    cases t with
    | slice t => simp only [leafOf] at hx; injection hx with hx; subst hx; simp only [RepL] at h; rw [h]; exact .nil _
    | opt t => simp only [leafOf] at hx; injection hx with hx; subst hx; simp only [RepL] at h; rw [h]; exact .onil
    | _ => simp [leafOf] at hx
  | _ => simp [leafOf] at hx
theorem one_rep {w : World} {ok : Nat → Nat → Prop} {t : Ty} {cs : List (CV E)} {vs : List Value} {x : den E.Γ t} (h : All2 (RepL E w ok) cs vs) (hx : one E t cs = some x) : RepD E w ok t x vs := by
  cases h with
  | nil => simp [one] at hx
  | cons r h => cases h with
    | nil => exact leafOf_rep r hx
    | cons _ _ => simp [one] at hx
theorem packF_rep {w : World} {ok : Nat → Nat → Prop} : ∀ (t : Ty) {cs : List (CV E)} {vs : List Value} {x : den E.Γ t}, All2 (RepL E w ok) cs vs → packF E t cs = some x → RepD E w ok t x vs := by
  intro t
  induction t with
  | unit =>
    intro cs vs x h hx
    cases h with
    | nil => exact .unit
    | cons _ _ => simp [packF] at hx
  | pair a b iha ihb =>
    intro cs vs x h hx
    simp only [packF] at hx
    split at hx
    · rename_i y z hy hz
      injection hx with hx; subst hx
      have := RepD.pair (iha (h.take (ncF a)) hy) (ihb (h.drop (ncF a)) hz)
      rwa [List.take_append_drop] at this
    · cases hx
  | nom n => intro cs vs x h hx; simp [packF] at hx
  | int k => intro cs vs x h hx; exact one_rep h hx
  | bool => intro cs vs x h hx; exact one_rep h hx
  | str => intro cs vs x h hx; exact one_rep h hx
  | slice t _ => intro cs vs x h hx; exact one_rep h hx
  | opt t _ => intro cs vs x h hx; exact one_rep h hx
theorem pack_rep {w : World} {ok : Nat → Nat → Prop} : ∀ (t : Ty) {cs : List (CV E)} {vs : List Value} {x : den E.Γ t}, All2 (RepL E w ok) cs vs → pack E t cs = some x → RepD E w ok t x vs := by
  intro t
  induction t with
  | unit =>
    intro cs vs x h hx
    cases h with
    | nil => exact .unit
    | cons _ _ => simp [pack] at hx
  | pair a b iha ihb =>
    intro cs vs x h hx
    simp only [pack] at hx
    split at hx
    · rename_i y z hy hz
      injection hx with hx; subst hx
      have := RepD.pair (iha (h.take (nc E a)) hy) (ihb (h.drop (nc E a)) hz)
      rwa [List.take_append_drop] at this
    · cases hx
  | nom n =>
    intro cs vs x h hx
    simp only [pack] at hx
    cases hp : packF E (E.row n) cs with
    | none => rw [hp] at hx; cases hx
    | some r =>
      rw [hp] at hx; injection hx with hx; subst hx
      refine .nom ?_
      rw [E.opcl]
      exact packF_rep _ h hp
  | int k => intro cs vs x h hx; exact one_rep h hx
  | bool => intro cs vs x h hx; exact one_rep h hx
  | str => intro cs vs x h hx; exact one_rep h hx
  | slice t _ => intro cs vs x h hx; exact one_rep h hx
  | opt t _ => intro cs vs x h hx; exact one_rep h hx
theorem exp_rep (hE : EnvOk E) {w : World} {okS : Nat → Nat → Prop} {okP : Nat → Prop} {ob : Obs E} {A : Asg} {t : Ty} {x : den E.Γ t} {vs : List Value} (h : RepD E w okS t x vs) :
    All2 (RepCV w okS okP ob A) (exp E t x) vs := by
  induction h with
  | unit => exact .nil
  | int k n => exact .cons (.int k n) .nil
  | bool b => exact .cons (.bool b) .nil
  | str s => exact .cons (.str s) .nil
  | pair _ _ ih1 ih2 => exact ih1.append ih2
  | nom _ ih => simp only [exp]; rw [← hE.expF]; exact ih
  | nil p => exact .cons (.nil p) .nil
  | onil => exact .cons .onil .nil
  | osome h _ => rcases h.slice_inv with ⟨p, h1, _⟩ | ⟨b, off, cap, f, h1, _⟩ <;> (subst h1; exact .cons (.osome h) .nil)
  | slice b off cap xs f h1 h2 h3 h4 h5 _ => exact .cons (.slice b off cap xs f h1 h2 h3 h4 h5) .nil
theorem Inv.freeze {C : FC} {s : St E} {A : Asg} {okS : Nat → Nat → Prop} {tmps : Array Value} {w : World} (I : Inv C s A okS tmps w) (n g : Nat) :
    ∃ okS', Inv C (s.freeze n g) A okS' tmps w ∧ Keeps C.okP s.ob A okS w (s.freeze n g).ob A okS' w ∧
      ∀ win v, RepCV w okS C.okP s.ob A (.ref n g win) v → RepL E w okS' (s.look (.ref n g win)) v := by
  unfold St.freeze
  split
  · rename_i t xs ho
    have hl := lk_of_obj (ob := s.ob) ho
    refine ⟨fun b k => okS b k ∨ (A.B n = some b ∧ A.O n ≤ k ∧ k < A.O n + xs.length * nc E t), ?_⟩
    have hO := I.obj n g _ hl
    have hd : ∀ win v, RepRef w A n (nc E t) xs.length win v → RepD E w (fun b k => okS b k ∨ (A.B n = some b ∧ A.O n ≤ k ∧ k < A.O n + xs.length * nc E t)) (.slice t) (winOf xs win) [v] :=
      fun win v hr => hr.data hO (fun b k hb => .inl hb) (fun b hb k h1 h2 => .inr ⟨hb, h1, h2⟩)
    have hu := I.upd (A' := A) (okS' := fun b k => okS b k ∨ (A.B n = some b ∧ A.O n ≤ k ∧ k < A.O n + xs.length * nc E t)) (w' := w) (o' := .frz t xs) (g := g) (fun _ _ => ⟨rfl, rfl⟩) (fun _ => ⟨_, hl⟩) (fun h o hl' => by rw [hl] at hl'; cases hl'; exact Nat.le_refl _) (Nat.le_refl _) rfl rfl rfl (fun _ _ _ => rfl)
      (fun _ _ _ _ => rfl) (fun b k hb => .inl hb)
      (fun b k hb => hb.elim (I.okLt b k) fun hb => (I.own n g _ b hl rfl hb.1).2.2.1) (fun b k hb => hb.elim (I.okSub b k) fun hb => .inr (I.own n g _ b hl rfl hb.1).2.2.2)
      (fun b k hb hnb m h o hm hlm hlv hB => hb.elim hnb fun hb => hm (I.inj m n h g o _ b hlm hl hlv rfl hB hb.1)) (fun o hl' => by
        rw [hl] at hl'; cases hl'
        exact ⟨.inr ⟨rfl, hd⟩, rfl, rfl, fun b cs e _ hc => ⟨cs, hc, rfl⟩⟩) (fun _ => by
        unfold RepOb at hO ⊢
        cases hB : A.B n with
        | none => simp only [hB] at hO ⊢; exact hO
        | some b => simp only [hB] at hO ⊢; obtain ⟨cs, e, hw, _⟩ := hO; exact ⟨cs, e, hw⟩) (fun _ b hb => by
        obtain ⟨a1, a2, a3, a4⟩ := I.own n g _ b hl rfl hb
        refine ⟨fun k hk hh => hh.elim (a1 k (Nat.zero_le _)) fun hh => ?_, a2, a3, a4, fun m h o hm hlm hlv hB => hm (I.inj m n h g o _ b hlm hl hlv rfl hB hb)⟩
        simp only [lim] at hk
        omega)
    refine ⟨hu.1, hu.2, fun win v hr => ?_⟩
    simp only [St.look, ho]
    exact hd win v (hr.2.1 t xs ho)
  · rename_i hno
    refine ⟨okS, I, Keeps.refl _ _ _ _ _, fun win v hr => ?_⟩
    simp only [St.look]
    split
    · rename_i t xs ho; exact absurd ho (hno t xs)
    · rename_i t xs ho; exact (hr.2.2 t xs ho).1
    · trivial
theorem look_freeze (s : St E) (n g : Nat) (c : CV E) : (s.freeze n g).look c = s.look c := by
  unfold St.freeze
  split
  · rename_i t xs ho
    cases c with
    | ref m h win =>
      simp only [St.look]
      by_cases hm : m = n
      · subst hm
        by_cases hh : h = g
        · subst hh
          have : (s.putOb m h (.frz t xs)).obj m h = some (.frz t xs) := obj_of_lk (by rw [St.lk_putOb]; simp)
          rw [this, ho]
        · have h1 : (s.putOb m g (.frz t xs)).obj m h = none := by
            cases he : (s.putOb m g (.frz t xs)).obj m h with
            | none => rfl
            | some o => have := lk_of_obj he; rw [St.lk_putOb] at this; simp at this; exact absurd this.1.symm hh
          have h2 : s.obj m h = none := by
            cases he : s.obj m h with
            | none => rfl
            | some o => have := lk_of_obj he; have h3 := lk_of_obj ho; rw [h3] at this; injection this with this; injection this with e _; exact absurd e.symm hh
          rw [h1, h2]
      · have : (s.putOb n g (.frz t xs)).obj m h = s.obj m h := by simp [St.obj, objOf, St.lk_putOb, hm]
        rw [this]
    | _ => rfl
  · rfl
theorem Inv.frzList {C : FC} {A : Asg} {tmps : Array Value} {w : World} (l : List (CV E)) : ∀ {s : St E} {okS : Nat → Nat → Prop}, Inv C s A okS tmps w →
    ∃ okS', Inv C (frzList s l) A okS' tmps w ∧ Keeps C.okP s.ob A okS w (frzList s l).ob A okS' w ∧
      (∀ c v, c ∈ l → RepCV w okS C.okP s.ob A c v → RepL E w okS' (s.look c) v) ∧ ∀ c, (AM.frzList s l).look c = s.look c := by
  induction l with
  | nil => intro s okS I; exact ⟨okS, I, Keeps.refl _ _ _ _ _, fun c v h => by simp at h, fun _ => rfl⟩
  | cons c r ih =>
    intro s okS I
    have other : (∀ n g w', c ≠ .ref n g w') → AM.frzList s (c :: r) = AM.frzList s r := by
      intro h; cases c <;> first | rfl | exact absurd rfl (h _ _ _)
    by_cases hc : ∃ n g w', c = .ref n g w'
    · obtain ⟨n, g, w', rfl⟩ := hc
      obtain ⟨ok1, I1, K1, L1⟩ := I.freeze n g
      obtain ⟨ok2, I2, K2, L2, E2⟩ := ih I1
      refine ⟨ok2, I2, K1.trans K2, fun c' v hm hr => ?_, fun c' => by simp only [AM.frzList]; rw [E2, look_freeze]⟩
      rcases List.mem_cons.1 hm with e | hm
      · subst e
        have := L1 w' v hr
        unfold RepL at this ⊢
        split
        · rename_i t x he; rw [he] at this; exact K2.dat t x _ this
        · rename_i he; rw [he] at this; exact this
        · trivial
      · have := L2 c' v hm (K1.cv c' v hr)
        rwa [look_freeze] at this
    · have hn : ∀ n g w', c ≠ .ref n g w' := fun n g w' e => hc ⟨n, g, w', e⟩
      rw [other hn]
      obtain ⟨ok2, I2, K2, L2, E2⟩ := ih I
      refine ⟨ok2, I2, K2, fun c' v hm hr => ?_, E2⟩
      rcases List.mem_cons.1 hm with e | hm
      · subst e
        cases c' with
        | ref n g w' => exact absurd rfl (hn n g w')
        | leaf t x => exact K2.dat t x _ hr
        | nilS => exact hr
        | _ => trivial
      · exact L2 c' v hm hr
end Go.Proofs.AM

namespace Go.Proofs.AM
open Go Go.RowKit
variable {E : Env}
def Tr.all {α : Type} (f : Nat → α → Bool) : Tr α → Bool
  | .leaf => true
  | .node k v l r => f k v && (l.all f && r.all f)
theorem Tr.all_find {α : Type} {f : Nat → α → Bool} : ∀ {t : Tr α} {n : Nat} {v : α}, t.all f = true → t.find n = some v → f n v = true := by
  intro t
  induction t with
  | leaf => intro n v _ h; cases h
  | node k w l r ihl ihr =>
    intro n v ha h
    simp only [Tr.all, Bool.and_eq_true] at ha
    simp only [Tr.find] at h
    cases hb : Nat.beq n k with
    | true =>
      rw [hb] at h; simp at h; subst h
      rw [Nat.eq_of_beq_eq_true hb]; exact ha.1
    | false =>
      rw [hb] at h
      simp only [cond_false] at h
      cases hc : Nat.ble n k with
      | true => rw [hc] at h; exact ihl ha.2.1 h
      | false => rw [hc] at h; exact ihr ha.2.2 h
def sameV : Value → Value → Bool
  | .int j a, .int k b => j == k && a == b
  | .bool a, .bool b => a == b
  | .string a, .string b => a.data.toList == b.data.toList
  | .slice none a b, .slice none c d => a == c && b == d
  | .pointer none, .pointer none => true
  | .nilFunc, .nilFunc => true
  | .nilIface, .nilIface => true
  | .map none, .map none => true
  | _, _ => false
theorem bytes_ext {a b : ByteArray} (h : a.data.toList = b.data.toList) : a = b := by
  cases a; cases b; simp at h; simp [h]
theorem sameV_eq {a b : Value} (h : sameV a b = true) : a = b := by
  unfold sameV at h
  split at h
  · simp only [Bool.and_eq_true, beq_iff_eq] at h; rw [h.1, h.2]
  · simp only [beq_iff_eq] at h; rw [h]
  · simp only [beq_iff_eq] at h; rw [bytes_ext h]
  · simp only [Bool.and_eq_true, beq_iff_eq] at h; rw [h.1, h.2]
  · rfl
  · rfl
  · rfl
  · rfl
  · cases h
def sameL : List Value → List Value → Bool
  | [], [] => true
  | a :: x, b :: y => sameV a b && sameL x y
  | _, _ => false
theorem sameL_eq : ∀ {a b : List Value}, sameL a b = true → a = b
  | [], [], _ => rfl
  | [], _ :: _, h => by simp [sameL] at h
  | _ :: _, [], h => by simp [sameL] at h
  | a :: x, b :: y, h => by
    simp only [sameL, Bool.and_eq_true] at h
    rw [sameV_eq h.1, sameL_eq h.2]
def sizeT (P : Program) (t : TypeId) : Nat := ((P.info? t).map (·.size)).getD 0
def flatFields (P : Program) (g : TypeId → Option (List Ty)) : Nat → List Field → Option (List Ty)
  | _, [] => some []
  | o, f :: fs => match g f.type with
    | some ts => if f.name ≠ "_" ∧ f.offset = o ∧ sizeT P f.type = ts.length ∧ ts.length ≠ 0 then (flatFields P g (o + ts.length) fs).map (ts ++ ·) else none
    | none => none
def flatTys (P : Program) : Nat → TypeId → Option (List Ty)
  | 0, _ => none
  | d + 1, t =>
    match P.underlying t with
    | some (.int k) => some [.int k]
    | some .bool => some [.bool]
    | some .string => some [.str]
    | some (.struct fs) => if P.stoodInHeld t = false then flatFields P (flatTys P d) 0 fs.toList else none
    | _ => none
def isRowT (P : Program) (t : TypeId) : Bool :=
  match P.underlying t with
  | some (.struct _) => true
  | some (.array _ _) => true
  | _ => false
def fieldsOk (P : Program) (tys : Tr TI) : List Field → List (Nat × TypeId) → Bool
  | [], [] => true
  | f :: fs, (off, t) :: r => f.offset == off && (f.type == t && (!(sizeT P t == 0) && ((tys.find t).any (fun ti => ti.size == sizeT P t) && fieldsOk P tys fs r)))
  | _, _ => false
def kindOk (E : Env) (P : Program) (tys : Tr TI) (t : TypeId) : TK → Bool
  | .int k => match P.underlying t with | some (.int j) => j == k | _ => false
  | .bool => match P.underlying t with | some .bool => true | _ => false
  | .str => match P.underlying t with | some .string => true | _ => false
  | .slice e te => match P.underlying t with
    | some (.slice e') => e' == e && (match tys.find e with | some tie => te == tie.ty && (te == .unit || (nc E te == tie.size && !(tie.size == 0))) | none => false)
    | _ => false
  | .struct fs => match P.underlying t with | some (.struct fields) => fieldsOk P tys fields.toList fs | _ => false
  | .arr n e size => match P.underlying t with
    | some (.array n' e') => n' == n && (e' == e && (sizeT P e == size && (!(size == 0) && (match tys.find e with | some te => te.size == size | none => false))))
    | _ => false
  | .other => match P.underlying t with | some _ => true | none => false
def zeroF (E : Env) : Ty → List Value → Bool
  | .unit, l => match l with | [] => true | _ => false
  | .int k, l => match l with | [.int j n] => j == k && n == 0 | _ => false
  | .bool, l => match l with | [.bool false] => true | _ => false
  | .str, l => match l with | [.string s] => s.data.toList == [] | _ => false
  | .slice _, l => match l with | [.slice none 0 0] => true | _ => false
  | .pair a b, l => zeroF E a (l.take (ncF a)) && zeroF E b (l.drop (ncF a))
  | .nom _, _ => false
  | .opt _, _ => false
def zeroOk (E : Env) : Ty → List Value → Bool
  | .unit, l => match l with | [] => true | _ => false
  | .int k, l => match l with | [.int j n] => j == k && n == 0 | _ => false
  | .bool, l => match l with | [.bool false] => true | _ => false
  | .str, l => match l with | [.string s] => s.data.toList == [] | _ => false
  | .slice _, l => match l with | [.slice none 0 0] => true | _ => false
  | .pair a b, l => zeroOk E a (l.take (nc E a)) && zeroOk E b (l.drop (nc E a))
  | .nom n, l => zeroF E (E.row n) l
  | .opt _, _ => false
def tiOk (E : Env) (P : Program) (tys : Tr TI) (t : TypeId) (ti : TI) : Bool :=
  match P.info? t with
  | none => false
  | some i => (i.size == ti.size && (i.bytes == ti.bytes && (match i.zero with | some z => sameL z.cells.toList ti.zero && (ti.zero.length == ti.size) | none => false))) &&
    (ti.agg == isRowT P t && (kindOk E P tys t ti.kind && ((!ti.flat || (isRowT P t && (flatTys P 10 t == some (ti.zero.map cellTy) && !P.eqGuardType P.depth t))) &&
      (ti.ty == .unit || (nc E ti.ty == ti.size && zeroOk E ti.ty ti.zero)))))
structure TIOk (E : Env) (P : Program) (tys : Tr TI) (t : TypeId) (ti : TI) : Prop where
  info : ∃ i z, P.info? t = some i ∧ i.size = ti.size ∧ i.bytes = ti.bytes ∧ i.zero = some z ∧ z.cells.toList = ti.zero ∧ ti.zero.length = ti.size
  agg : ti.agg = isRowT P t
  kind : kindOk E P tys t ti.kind = true
  flat : ti.flat = true → isRowT P t = true ∧ flatTys P 10 t = some (ti.zero.map cellTy) ∧ P.eqGuardType P.depth t = false
  ty : ti.ty = .unit ∨ (nc E ti.ty = ti.size ∧ zeroOk E ti.ty ti.zero = true)
theorem tiOk_sound {P : Program} {tys : Tr TI} {t : TypeId} {ti : TI} (h : tiOk E P tys t ti = true) : TIOk E P tys t ti := by
  unfold tiOk at h
  split at h
  · cases h
  · rename_i i hi
    simp only [Bool.and_eq_true, beq_iff_eq, Bool.or_eq_true, Bool.not_eq_true'] at h
    obtain ⟨⟨h1, h2, h3⟩, h4, h5, h6, h7⟩ := h
    split at h3
    · rename_i z hz
      simp only [Bool.and_eq_true, beq_iff_eq] at h3
      refine ⟨⟨i, z, hi, h1, h2, hz, sameL_eq h3.1, h3.2⟩, h4, h5, fun hf => ?_, h7⟩
      rcases h6 with h6 | h6
      · rw [hf] at h6; cases h6
      · exact ⟨h6.1, h6.2.1, h6.2.2⟩
    · cases h3
def TysOk (E : Env) (P : Program) (tys : Tr TI) : Prop := ∀ t ti, tys.find t = some ti → TIOk E P tys t ti
theorem tysOk_of {P : Program} {tys : Tr TI} (h : tys.all (tiOk E P tys) = true) : TysOk E P tys := fun _ _ hf => tiOk_sound (Tr.all_find h hf)
section
variable {P : Program} {tys : Tr TI} {t : TypeId} {ti : TI}
theorem kind_int {k : IntKind} (h : kindOk E P tys t (.int k) = true) : P.underlying t = some (.int k) := by
  simp only [kindOk] at h; split at h
  · rename_i j hj; simp only [beq_iff_eq] at h; rw [hj, h]
  · cases h
theorem kind_bool (h : kindOk E P tys t .bool = true) : P.underlying t = some .bool := by
  simp only [kindOk] at h; split at h
  · assumption
  · cases h
theorem kind_str (h : kindOk E P tys t .str = true) : P.underlying t = some .string := by
  simp only [kindOk] at h; split at h
  · assumption
  · cases h
theorem kind_slice {e : TypeId} {te : Ty} (h : kindOk E P tys t (.slice e te) = true) : P.underlying t = some (.slice e) ∧ ∃ tie, tys.find e = some tie ∧ te = tie.ty ∧ (te = .unit ∨ nc E te = tie.size ∧ tie.size ≠ 0) := by
  simp only [kindOk] at h; split at h
  · rename_i e' he
    simp only [Bool.and_eq_true, beq_iff_eq] at h
    obtain ⟨h1, h2⟩ := h
    subst h1
    split at h2
    · rename_i tie ht
      simp only [Bool.and_eq_true, beq_iff_eq, Bool.or_eq_true, Bool.not_eq_true', beq_eq_false_iff_ne] at h2
      exact ⟨he, tie, ht, h2.1, h2.2⟩
    · cases h2
  · cases h
theorem kind_struct {fs : List (Nat × TypeId)} (h : kindOk E P tys t (.struct fs) = true) : ∃ fields, P.underlying t = some (.struct fields) ∧ fieldsOk P tys fields.toList fs = true := by
  simp only [kindOk] at h; split at h
  · rename_i f hf; exact ⟨f, hf, h⟩
  · cases h
theorem kind_arr {n : Nat} {e : TypeId} {size : Nat} (h : kindOk E P tys t (.arr n e size) = true) : P.underlying t = some (.array n e) ∧ sizeT P e = size ∧ size ≠ 0 ∧ ∃ te, tys.find e = some te ∧ te.size = size := by
  simp only [kindOk] at h; split at h
  · rename_i n' e' hu
    simp only [Bool.and_eq_true, beq_iff_eq, Bool.not_eq_true', beq_eq_false_iff_ne] at h
    obtain ⟨h1, h2, h3, h4, h5⟩ := h
    subst h1; subst h2
    split at h5
    · rename_i te ht
      simp only [beq_iff_eq] at h5
      exact ⟨hu, h3, h4, te, ht, h5⟩
    · cases h5
  · cases h
theorem TIOk.underlying (h : TIOk E P tys t ti) : ∃ d, P.underlying t = some d := by
  have := h.kind
  unfold kindOk at this
  cases hu : P.underlying t with
  | some d => exact ⟨d, rfl⟩
  | none => rw [hu] at this; split at this <;> simp_all
theorem run_isAgg_of (h : TIOk E P tys t ti) (w : World) : (isAgg t).run P w = .ok ti.agg w := by
  obtain ⟨d, hd⟩ := h.underlying
  unfold isAgg
  rw [Sem.run_bind, run_underlying hd w, h.agg]
  unfold isRowT
  rw [hd]
  cases d <;> rfl
theorem run_typeInfo_of {i : TypeInfo} (hi : P.info? t = some i) (w : World) : (typeInfo t).run P w = .ok i w := by simp [typeInfo, hi]
theorem run_sizeOf_of (h : TIOk E P tys t ti) (w : World) : (sizeOf t).run P w = .ok ti.size w := by
  obtain ⟨i, z, hi, hs, _⟩ := h.info
  simp [sizeOf, typeInfo, hi, hs]
theorem run_zeroValue_of (h : TIOk E P tys t ti) (w : World) : ∃ z : Value, (zeroValue t).run P w = .ok z w ∧ z.cells.toList = ti.zero := by
  obtain ⟨i, z, hi, _, _, hz, hc, _⟩ := h.info
  exact ⟨z, by simp [zeroValue, typeInfo, hi, hz], hc⟩
theorem add_plain (b o n : Nat) : (⟨b, o, none⟩ : Addr).add n = ⟨b, o + n, none⟩ := Addr.add_mid b o n
theorem run_loadAt_of (h : TIOk E P tys t ti) (w : World) (b o : Nat) (vs : List Value) (hl : vs.length = ti.size) (hc : ∀ j, j < ti.size → w.cell? ⟨b, o + j, none⟩ = vs[j]?) :
    (ti.agg = true → (Instr.loadAt t (.pointer (some ⟨b, o, none⟩))).run P w = .ok (.agg vs.toArray) w) ∧
    (ti.agg = false → ∀ v, vs = [v] → (Instr.loadAt t (.pointer (some ⟨b, o, none⟩))).run P w = .ok v w) := by
  constructor
  · intro ha
    obtain ⟨d, hd⟩ := h.underlying
    have hr : d.isRow = true := by
      have := h.agg; rw [ha] at this; unfold isRowT at this; rw [hd] at this
      clear hc hl
      cases d <;> first | rfl | (simp at this; done)
    obtain ⟨i, z, hi, hs, _⟩ := h.info
    refine run_loadAt_mid (P := P) w b o t vs d (fun j v hv => ?_) hd hr (by rw [hi]; simp [hs, hl])
    rw [← hv]
    refine hc j ?_
    have hjl : j < vs.length := by
      rcases Nat.lt_or_ge j vs.length with hj | hj
      · exact hj
      · rw [List.getElem?_eq_none hj] at hv; cases hv
    omega
  · intro ha v hv
    subst hv
    have h0 := hc 0 (by simp at hl; omega)
    simp only [Nat.add_zero] at h0
    simp [Instr.loadAt, Instr.sureAddr, loadVar, Sem.run_bind, run_isAgg_of h w, ha, h0]
end
def layA (cs : Array Value) (o : Nat) : List Value → Array Value
  | [] => cs
  | v :: r => layA (cs.setIfInBounds o v) (o + 1) r
theorem layA_size (vs : List Value) : ∀ (cs : Array Value) (o : Nat), (layA cs o vs).size = cs.size := by
  induction vs with
  | nil => intro cs o; rfl
  | cons v r ih => intro cs o; simp [layA, ih]
theorem layA_get (vs : List Value) : ∀ (cs : Array Value) (o k : Nat), o + vs.length ≤ cs.size → (layA cs o vs)[k]? = if o ≤ k ∧ k < o + vs.length then vs[k - o]? else cs[k]? := by
  induction vs with
  | nil => intro cs o k _; simp [layA]; omega
  | cons v r ih =>
    intro cs o k hle
    simp only [List.length_cons] at hle
    rw [layA, ih _ _ _ (by simp; omega)]
    by_cases h1 : o + 1 ≤ k ∧ k < o + 1 + r.length
    · rw [if_pos h1, if_pos (by simp; omega)]
      rw [show k - o = (k - (o + 1)) + 1 by omega, List.getElem?_cons_succ]
    · rw [if_neg h1]
      by_cases h2 : k = o
      · subst h2
        rw [if_pos (by simp)]
        simp [Array.getElem?_setIfInBounds_self_of_lt (show k < cs.size by omega)]
      · rw [if_neg (by simp; omega), Array.getElem?_setIfInBounds_ne (by omega)]
theorem heap_setCells (b : Nat) (e : TypeId) : ∀ (vs : List Value) (o : Nat) (w : World) (cs : Array Value), w.heap[b]? = some (.cells cs e (0, 0)) → (w.setCells b o vs).heap[b]? = some (.cells (layA cs o vs) e (0, 0))
  | [], _, _, _, h => h
  | v :: r, o, w, cs, h => by
    rw [World.setCells, layA]
    exact heap_setCells b e r (o + 1) _ _ (heap_setCell_same w b o cs e v h)
theorem heap_setCells_ne (b : Nat) : ∀ (vs : List Value) (o : Nat) (w : World) (k : Nat), k ≠ b → (w.setCells b o vs).heap[k]? = w.heap[k]?
  | [], _, _, _, _ => rfl
  | v :: r, o, w, k, h => by
    rw [World.setCells, heap_setCells_ne b r _ _ _ h, heap_setCell_other w ⟨b, o, none⟩ k v h]
theorem size_setCells (b : Nat) : ∀ (vs : List Value) (o : Nat) (w : World), (w.setCells b o vs).heap.size = w.heap.size
  | [], _, _ => rfl
  | v :: r, o, w => by rw [World.setCells, size_setCells b r]; simp
theorem os_setCells (b : Nat) : ∀ (vs : List Value) (o : Nat) (w : World), (w.setCells b o vs).os = w.os ∧ (w.setCells b o vs).tape = w.tape ∧ (w.setCells b o vs).output = w.output
  | [], _, _ => ⟨rfl, rfl, rfl⟩
  | v :: r, o, w => by rw [World.setCells]; exact os_setCells b r _ _
theorem run_storeAt_of {P : Program} {tys : Tr TI} {t : TypeId} {ti : TI} (h : TIOk E P tys t ti) (w : World) (b o : Nat) (cs : Array Value) (e : TypeId) (hb : w.heap[b]? = some (.cells cs e (0, 0)))
    (v : Value) (vs : List Value) (hv : v.cells.toList = vs) (hl : vs.length = ti.size) (hin : o + vs.length ≤ cs.size) (h1 : ∀ x ∈ vs, x.oneCell' = true) :
    (Instr.storeAt t (.pointer (some ⟨b, o, none⟩)) v).run P w = .ok () (w.setCells b o vs) := by
  have hst := run_storeCells_cells (P := P) b o vs 0 w (fun j hj => by
      rw [show o + 0 + j = o + j by omega, cell?_of_heap hb]
      rw [Array.getElem?_eq_getElem (by omega)]; rfl) (fun j hj => frozen_of_row w b _ cs e hb) h1
  simp only [Nat.add_zero] at hst
  have hs : v.cells.size = ti.size := by rw [← Array.length_toList, hv, hl]
  simp only [Instr.storeAt, Instr.sureAddr, Sem.run_bind, Sem.run_pure, Result.andThen_ok, storeVar, run_sizeOf_of h w, hs, ne_eq, not_true_eq_false, if_false, hv]
  first
    | exact hst
    | simpa using hst
end Go.Proofs.AM

namespace Go.Proofs.AM
open Go Go.RowKit
variable {E : Env}
theorem RepD.one {w : World} {ok : Nat → Nat → Prop} {t : Ty} {x : den E.Γ t} {cs : List Value} (h : RepD E w ok t x cs) : ∀ v ∈ cs, v.oneCell' = true := by
  induction h with
  | pair _ _ ih1 ih2 => intro v hv; exact (List.mem_append.1 hv).elim (ih1 v) (ih2 v)
  | nom _ ih => exact ih
  | unit => intro v hv; cases hv
  | osome _ ih => exact ih
  | _ => intro v hv; simp at hv; subst hv; rfl
section
variable {w : World} {okS : Nat → Nat → Prop} {okP : Nat → Prop} {ob : Obs E} {A : Asg}
theorem RepCV.one {c : CV E} {v : Value} (h : RepCV w okS okP ob A c v) (hc : c ≠ .dead) : v.oneCell' = true := by
  cases c with
  | dead => exact absurd rfl hc
  | leaf t x => exact RepD.one h v (by simp)
  | nilS => simp only [RepCV] at h; subst h; rfl
  | nilP => simp only [RepCV] at h; subst h; rfl
  | ptr n g off => exact h.2.1
  | ref n g win => exact h.1.2
  | optr n g i off => exact h.2.1
  | ro t x off => obtain ⟨b, o, cs, hv, _⟩ := h; subst hv; rfl
  | fn f caps => obtain ⟨vs, hv, _⟩ := h; subst hv; rfl
  | fnd f l => obtain ⟨vs, ⟨hv, _⟩, _⟩ := h; subst hv; rfl
theorem cells_one {v : Value} (h : v.oneCell' = true) : v.cells.toList = [v] := by cases v <;> first | rfl | (simp [Value.oneCell'] at h)
theorem svCells_rep {tmps : Array Value} {k : SV E} {v : Value} {cs : List (CV E)} (h : RepSV w okS okP ob A tmps k v) (hc : svCells k = some cs) : All2 (RepCV w okS okP ob A) cs v.cells.toList := by
  cases k with
  | c c =>
    by_cases hd : c = .dead
    · subst hd; simp [svCells] at hc
    · have hcs : cs = [c] := by cases c <;> simp_all [svCells]
      subst hcs
      rw [cells_one (RepCV.one h hd)]
      exact .cons h .nil
  | agg cs' =>
    simp only [svCells] at hc
    injection hc with hc; subst hc
    obtain ⟨vs, hv, hr⟩ := h
    subst hv
    simpa [Value.cells] using hr
  | tup _ => simp [svCells] at hc
  | gl _ _ _ => simp [svCells] at hc
theorem cellOf_rep (v : Value) : RepCV w okS okP ob A (cellOf E v) v := by
  unfold cellOf
  split
  · exact RepD.int _ _
  · exact RepD.bool _
  · exact RepD.str _
  · rfl
  · rfl
  · trivial
theorem map_cellOf_rep (l : List Value) : All2 (RepCV w okS okP ob A) (l.map (cellOf E)) l := by
  induction l with
  | nil => exact .nil
  | cons v r ih => exact .cons (cellOf_rep v) ih
theorem valOf_rep {tmps : Array Value} (v : Value) : RepSV w okS okP ob A tmps (valOf E v) v := by
  unfold valOf
  split
  · rename_i cs; exact ⟨cs.toList, by simp, map_cellOf_rep _⟩
  · trivial
  · exact cellOf_rep v
theorem ungl_rep {tmps : Array Value} {ch : Chain} (hch : ∀ q b, inChain ch q b = true → tmps.getD q undef = .bool b) {k : SV E} : ∀ {v : Value}, RepSV w okS okP ob A tmps k v → RepSV w okS okP ob A tmps (ungl ch k) v := by
  induction k with
  | c k => intro v h; exact h
  | agg cs => intro v h; exact h
  | tup ps => intro v h; exact h
  | gl q b x ih =>
    intro v h
    simp only [ungl]
    cases hc : inChain ch q b with
    | true => exact ih (h.1 (hch q b hc))
    | false => trivial
end
theorem slot_rep {C : FC} {s : St E} {A : Asg} {okS : Nat → Nat → Prop} {tmps : Array Value} {w : World} (I : Inv C s A okS tmps w) (n : Nat) : RepSV w okS C.okP s.ob A tmps (s.slot n) (tmps.getD n undef) := by
  unfold St.slot
  cases h : lk s.sl n with
  | none => trivial
  | some v => exact I.sl n v h
theorem ev_rep {C : FC} {s : St E} {A : Asg} {okS : Nat → Nat → Prop} {a : Act} {w : World} (I : Inv C s A okS a.tmps w) {ch : Chain} (hch : ∀ q b, inChain ch q b = true → a.tmps.getD q undef = .bool b) (x : Operand) :
    RepSV w okS C.okP s.ob A a.tmps (ev s ch x) (a.eval x) := by
  cases x with
  | tmp t => exact ungl_rep hch (slot_rep I t)
  | const v => exact valOf_rep v
  | func f => exact ⟨[], rfl, .nil⟩
  | global g => trivial
def SimpOk (P : Program) (C : FC) (o : Oper) (a : Act) (w : World) (sv : SV E) (s' : St E) : Prop :=
  ∃ v w' A' okS', ((execOp a.eval o).run P w = .ok (.value v) w' ∨ ((execOp a.eval o).run P w = .ok .skip w' ∧ v = undef)) ∧
    Inv C s' A' okS' a.tmps w' ∧ RepSV w' okS' C.okP s'.ob A' a.tmps sv v
theorem SimpOk.same {P : Program} {C : FC} {o : Oper} {a : Act} {w : World} {sv : SV E} {s : St E} {A : Asg} {okS : Nat → Nat → Prop} (I : Inv C s A okS a.tmps w) {v : Value}
    (hr : (execOp a.eval o).run P w = .ok (.value v) w) (h : RepSV w okS C.okP s.ob A a.tmps sv v) : SimpOk P C o a w sv s := ⟨v, w, A, okS, .inl hr, I, h⟩
section
variable {P : Program} {C : FC} {s : St E} {A : Asg} {okS : Nat → Nat → Prop} {a : Act} {w : World}
theorem RepSV.c_inv {tmps : Array Value} {okP : Nat → Prop} {ob : Obs E} {k : SV E} {c : CV E} {v : Value} (h : RepSV w okS okP ob A tmps k v) (e : k = .c c) : RepCV w okS okP ob A c v := by subst e; exact h
theorem RepSV.agg_inv {tmps : Array Value} {okP : Nat → Prop} {ob : Obs E} {k : SV E} {cs : List (CV E)} {v : Value} (h : RepSV w okS okP ob A tmps k v) (e : k = .agg cs) :
    ∃ vs : List Value, v = .agg vs.toArray ∧ All2 (RepCV w okS okP ob A) cs vs := by subst e; exact h
theorem leaf_int {okP : Nat → Prop} {ob : Obs E} {k : IntKind} {x : Int} {v : Value} (h : RepCV w okS okP ob A (.leaf (.int k) x) v) : v = .int k x := by
  have := RepD.int_inv h; simpa using this
theorem leaf_bool {okP : Nat → Prop} {ob : Obs E} {x : Bool} {v : Value} (h : RepCV w okS okP ob A (.leaf .bool x) v) : v = .bool x := by
  have := RepD.bool_inv h; simpa using this
theorem leaf_str {okP : Nat → Prop} {ob : Obs E} {x : ByteArray} {v : Value} (h : RepCV w okS okP ob A (.leaf .str x) v) : v = .string x := by
  have := RepD.str_inv h; simpa using this
theorem mkSV_rep {tmps : Array Value} {okP : Nat → Prop} {ob : Obs E} {agg : Bool} {cs : List (CV E)} {vs : List Value} {k : SV E} (h : All2 (RepCV w okS okP ob A) cs vs) (hk : mkSV agg cs = some k) :
    (agg = true → RepSV w okS okP ob A tmps k (.agg vs.toArray)) ∧ (agg = false → ∃ v, vs = [v] ∧ RepSV w okS okP ob A tmps k v) := by
  cases agg with
  | true => simp [mkSV] at hk; subst hk; exact ⟨fun _ => ⟨vs, rfl, h⟩, fun h => (by cases h)⟩
  | false =>
    simp only [mkSV, cond_false] at hk
    cases h with
    | nil => simp at hk
    | cons r h => cases h with
      | nil => simp at hk; subst hk; exact ⟨fun h => (by cases h), fun _ => ⟨_, rfl, r⟩⟩
      | cons _ _ => simp at hk
theorem takeAt_some {α : Type} {cs r : List α} {off size : Nat} (h : takeAt cs off size = some r) : r = (cs.drop off).take size ∧ r.length = size := by
  simp only [takeAt] at h
  cases hb : Nat.beq ((cs.drop off).take size).length size with
  | true => rw [hb] at h; simp at h; subst h; exact ⟨rfl, Nat.eq_of_beq_eq_true hb⟩
  | false => rw [hb] at h; simp at h
theorem behind_rep (hE : EnvOk E) (I : Inv C s A okS a.tmps w) {p : CV E} {v : Value} {cs : List (CV E)} {off : Nat} (h : RepCV w okS C.okP s.ob A p v) (hb : behind s p = some (cs, off)) :
    ∃ b o vs, v = .pointer (some ⟨b, o + off, none⟩) ∧ All2 (RepCV w okS C.okP s.ob A) cs vs ∧ ∀ j, j < vs.length → w.cell? ⟨b, o + j, none⟩ = vs[j]? := by
  cases p with
  | ptr n g off' =>
    simp only [behind] at hb
    split at hb
    · rename_i cs' ho
      injection hb with hb; injection hb with h1 h2; subst h1; subst h2
      obtain ⟨b, hB, hv⟩ := h.2.2 cs' ho
      obtain ⟨b', vs, e, hB', hw, hr⟩ := I.obj n g _ (lk_of_obj ho)
      rw [hB] at hB'; cases hB'
      exact ⟨b, 0, vs, by simpa using hv, hr, fun j hj => by rw [cell?_of_heap hw]; simp⟩
    · cases hb
  | ro t x off' =>
    simp only [behind] at hb
    injection hb with hb; injection hb with h1 h2; subst h1; subst h2
    obtain ⟨b, o, cs, hv, _, _, hl, hc, hr⟩ := h
    refine ⟨b, o, cs, hv, exp_rep hE hr, fun j hj => hc j (by omega)⟩
  | optr n g i off' =>
    simp only [behind] at hb
    split at hb
    · rename_i t xs ho
      injection hb with hb; injection hb with h1 h2; subst h1; subst h2
      obtain ⟨hi, b, hB, hv⟩ := h.2.2 t xs ho
      have hob := I.obj n g _ (lk_of_obj ho)
      unfold RepOb at hob
      simp only [hB] at hob
      obtain ⟨cs, e, hw, f, hf⟩ := hob
      obtain ⟨h1, h2, h3⟩ := hf i hi
      refine ⟨b, A.O n + i * nc E t, f i, hv, ?_, fun j hj => ?_⟩
      · rw [List.getD_eq_getElem?_getD, List.getElem?_eq_getElem hi]
        exact exp_rep hE h3
      · rw [cell?_of_heap hw]; exact h2 j (by omega)
    · cases hb
  | _ => simp [behind] at hb
theorem load_ok (hE : EnvOk E) {tys : Tr TI} (hT : TysOk E P tys) (I : Inv C s A okS a.tmps w) {t : TypeId} {ti : TI} (ht : tys.find t = some ti) {p : CV E} {v : Value} {k : SV E} (h : RepCV w okS C.okP s.ob A p v)
    (hl : load ti s p = some k) : ∃ x, (Instr.loadAt t v).run P w = .ok x w ∧ RepSV w okS C.okP s.ob A a.tmps k x := by
  unfold load at hl
  split at hl
  · rename_i cs off hb
    split at hl
    · rename_i r hr
      obtain ⟨b, o, vs, hv, hrep, hc⟩ := behind_rep hE I h hb
      obtain ⟨hr1, hr2⟩ := takeAt_some hr
      have hrep' : All2 (RepCV w okS C.okP s.ob A) r ((vs.drop off).take ti.size) := by rw [hr1]; exact (hrep.drop off).take _
      have hlen : ((vs.drop off).take ti.size).length = ti.size := by rw [← hrep'.length, hr2]
      have hti := hT t ti ht
      subst hv
      have hrun := run_loadAt_of hti w b (o + off) ((vs.drop off).take ti.size) hlen (fun j hj => by
        have hin : off + j < vs.length := by simp only [List.length_take, List.length_drop] at hlen; omega
        rw [show o + off + j = o + (off + j) by omega, hc _ hin]
        simp [hj])
      obtain ⟨m1, m2⟩ := mkSV_rep (tmps := a.tmps) hrep' hl
      cases hagg : ti.agg with
      | true => exact ⟨_, hrun.1 hagg, m1 hagg⟩
      | false => obtain ⟨x, hx, hr⟩ := m2 hagg; exact ⟨x, hrun.2 hagg x hx, hr⟩
    · cases hl
  · cases hl
end
end Go.Proofs.AM

namespace Go.Proofs.AM
open Go Go.RowKit
variable {E : Env}
section
variable {P : Program} {C : FC} {s : St E} {A : Asg} {okS : Nat → Nat → Prop} {a : Act} {w : World} {okP : Nat → Prop} {ob : Obs E}
theorem run_eqGuard_int (op : BinOp) (t : TypeId) (x y : Operand) (j : IntKind) (p : Int) (v : Value) : (eqGuard op t x y (.int j p) v).run P w = .ok () w := by unfold eqGuard; cases op <;> rfl
theorem run_eqGuard_str (op : BinOp) (t : TypeId) (x y : Operand) (p : ByteArray) (v : Value) : (eqGuard op t x y (.string p) v).run P w = .ok () w := by unfold eqGuard; cases op <;> rfl
theorem run_eqGuard_bool (op : BinOp) (t : TypeId) (x y : Operand) (p : Bool) (v : Value) : (eqGuard op t x y (.bool p) v).run P w = .ok () w := by unfold eqGuard; cases op <;> rfl
theorem run_eqGuard_slice (op : BinOp) (t : TypeId) (x y : Operand) (p : Option Addr) (m n : Nat) (v : Value) : (eqGuard op t x y (.slice p m n) v).run P w = .ok () w := by unfold eqGuard; cases op <;> rfl
theorem shiftI_run {op : BinOp} {j k : IntKind} {x y r : Int} (h : shiftI op j x y = some r) (hy : 0 ≤ y) : (binOp op 0 (.int j x) (.int k y)).run P w = .ok (.int j r) w ∧ ∀ t, (binOp op t (.int j x) (.int k y)).run P w = .ok (.int j r) w := by
  have : ∀ t, (binOp op t (.int j x) (.int k y)).run P w = .ok (.int j r) w := by
    intro t
    unfold shiftI at h
    split at h
    · injection h with h; subst h; simp [binOp, Op.shift, Int.not_lt.2 hy]
    · injection h with h; subst h; simp [binOp, Op.shift, Int.not_lt.2 hy]
    · cases h
  exact ⟨this 0, this⟩
theorem toList_data' (b : ByteArray) : b.toList = b.data.toList := by
  exact ByteArray.toList_eq b
theorem shiftI_none {op : BinOp} {j : IntKind} {x y : Int} (h : shiftI op j x y = none) : op ≠ .shl ∧ op ≠ .shr := by
  constructor <;> (intro e; subst e; simp [shiftI] at h)
theorem intop_run {op : BinOp} {j : IntKind} {x y : Int} (hs : shiftI op j x y = none) (t : TypeId) :
    (∀ r c, arith op j x y = some (r, c) → c = true → (binOp op t (.int j x) (.int j y)).run P w = .ok (.int j r) w) ∧
    (arith op j x y = none → (∀ r, bitsI op j x y = some r → (binOp op t (.int j x) (.int j y)).run P w = .ok (.int j r) w) ∧
      (bitsI op j x y = none → ∀ r, compar op x y = some r → (binOp op t (.int j x) (.int j y)).run P w = .ok (.bool r) w)) := by
  obtain ⟨h1, h2⟩ := shiftI_none hs
  refine ⟨fun r c h hc => ?_, fun _ => ⟨fun r h => ?_, fun _ r h => ?_⟩⟩
  · unfold arith at h
    split at h
    · injection h with h; injection h with e1 e2; subst e1; simp [binOp, Op.intArith]
    · injection h with h; injection h with e1 e2; subst e1; simp [binOp, Op.intArith]
    · injection h with h; injection h with e1 e2; subst e1; simp [binOp, Op.intArith]
    · injection h with h; injection h with e1 e2; subst e1; subst hc; simp at e2; simp [binOp, Op.intDiv, e2]
    · injection h with h; injection h with e1 e2; subst e1; subst hc; simp at e2; simp [binOp, Op.intDiv, e2]
    · cases h
  · unfold bitsI at h
    split at h
    · injection h with h; subst h; simp [binOp, Op.intBits]
    · injection h with h; subst h; simp [binOp, Op.intBits]
    · injection h with h; subst h; simp [binOp, Op.intBits]
    · injection h with h; subst h; simp [binOp, Op.intBits]
    · cases h
  · unfold compar at h
    split at h <;> first
      | (injection h with h; subst h; simp [binOp, Op.intCmp, bne, BEq.beq]; done)
      | (injection h with h; subst h; simp [binOp, Op.intCmp]; done)
      | cases h
theorem run_equalIn_slice (d : Nat) {t e : TypeId} (h : P.underlying t = some (.slice e)) (p : Option Addr) (m n : Nat) : (Op.equalIn (d + 1) t (.slice p m n) (.slice none 0 0)).run P w = .ok p.isNone w := by
  cases p <;> simp [Op.equalIn, run_underlying h]
theorem run_eql_nilS {t e : TypeId} (h : P.underlying t = some (.slice e)) (p : Option Addr) (m n : Nat) : (binOp .eql t (.slice p m n) (.slice none 0 0)).run P w = .ok (.bool p.isNone) w := by
  have := run_equalIn_slice (P := P) (w := w) 9999 h p m n
  simp only [binOp, Op.equal, Op.maxDepth, Sem.run_bind, this, Result.andThen_ok]; rfl
theorem run_neq_nilS {t e : TypeId} (h : P.underlying t = some (.slice e)) (p : Option Addr) (m n : Nat) : (binOp .neq t (.slice p m n) (.slice none 0 0)).run P w = .ok (.bool (!p.isNone)) w := by
  have := run_equalIn_slice (P := P) (w := w) 9999 h p m n
  simp only [binOp, Op.equal, Op.maxDepth, Sem.run_bind, this, Result.andThen_ok]; rfl
theorem binop_ok (hE : EnvOk E) {M : Mach E} (hT : TysOk E P M.tys) {op : BinOp} {t : TypeId} {ox oy : Operand} {x y r : CV E} {u v : Value} (hx : RepCV w okS okP ob A x u) (hy : RepCV w okS okP ob A y v)
    (ht : boolTy M t x = true) (h : binop op x y = some (r, true)) :
    ∃ z, (do eqGuard op t ox oy u v; binOp op t u v : Sem Value).run P w = .ok z w ∧ RepCV w okS okP ob A r z := by
  unfold binop at h
  split at h
  · rename_i j p k q
    have hu := leaf_int hx; have hv := leaf_int hy
    subst hu; subst hv
    have hg : (eqGuard op t ox oy (.int j p) (.int k q)).run P w = .ok () w := run_eqGuard_int _ _ _ _ _ _ _
    simp only [Sem.run_bind, hg, Result.andThen_ok]
    split at h
    · rename_i r' hs
      injection h with h; injection h with e1 e2; subst e1
      exact ⟨_, (shiftI_run hs (by simpa using e2)).2 t, RepD.int _ _⟩
    · rename_i hs
      split at h
      · rename_i hjk; subst hjk
        obtain ⟨i1, i2⟩ := intop_run (P := P) (w := w) hs t
        split at h
        · rename_i r' c' ha
          injection h with h; injection h with e1 e2; subst e1
          exact ⟨_, i1 _ _ ha e2, RepD.int _ _⟩
        · rename_i ha
          split at h
          · rename_i r' hb
            injection h with h; injection h with e1 e2; subst e1
            exact ⟨_, (i2 ha).1 _ hb, RepD.int _ _⟩
          · rename_i hb
            split at h
            · rename_i r' hc
              injection h with h; injection h with e1 e2; subst e1
              exact ⟨_, (i2 ha).2 hb _ hc, RepD.bool _⟩
            · cases h
      · cases h
  · rename_i p q
    have hu := leaf_str hx; have hv := leaf_str hy
    subst hu; subst hv
    have hg : (eqGuard op t ox oy (.string p) (.string q)).run P w = .ok () w := run_eqGuard_str _ _ _ _ _ _
    simp only [Sem.run_bind, hg, Result.andThen_ok]
    split at h
    · injection h with h; injection h with e1 e2; subst e1
      simp only [decide_eq_true_eq] at e2
      refine ⟨.string (p ++ q), ?_, RepD.str _⟩
      have : ¬ ((p.size + q.size : Nat) : Int) > IntKind.i64.max := by
        have : IntKind.i64.max = 9223372036854775807 := by decide
        rw [this]; omega
      simp only [binOp, Op.stringOp]
      rw [if_neg this]; rfl
    · injection h with h; injection h with e1 e2; subst e1
      refine ⟨.bool (beqS p q), ?_, RepD.bool _⟩
      simp only [binOp, Op.stringOp, beqS, toList_data']; rfl
    · injection h with h; injection h with e1 e2; subst e1
      refine ⟨.bool (!(beqS p q)), ?_, RepD.bool _⟩
      simp only [binOp, Op.stringOp, beqS, toList_data']; rfl
    · cases h
  · rename_i p q
    have hu := leaf_bool hx; have hv := leaf_bool hy
    subst hu; subst hv
    have hg : (eqGuard op t ox oy (.bool p) (.bool q)).run P w = .ok () w := run_eqGuard_bool _ _ _ _ _ _
    have hb : P.underlying t = some .bool := by
      simp only [boolTy] at ht
      split at ht
      · rename_i ti hti
        have := (hT t ti hti).kind
        split at ht
        · rename_i hk
          rw [hk] at this
          exact kind_bool this
        · cases ht
      · cases ht
    simp only [Sem.run_bind, hg, Result.andThen_ok]
    split at h
    · injection h with h; injection h with e1 e2; subst e1
      exact ⟨_, run_eql_bool w t p q hb, RepD.bool _⟩
    · injection h with h; injection h with e1 e2; subst e1
      exact ⟨_, run_neq_bool w t p q hb, RepD.bool _⟩
    · cases h
  · have hu : u = .slice none 0 0 := hx
    have hv : v = .slice none 0 0 := hy
    subst hu; subst hv
    have hg : (eqGuard op t ox oy (.slice none 0 0) (.slice none 0 0)).run P w = .ok () w := run_eqGuard_slice _ _ _ _ _ _ _ _
    obtain ⟨e, hb⟩ : ∃ e, P.underlying t = some (.slice e) := by
      simp only [boolTy] at ht
      split at ht
      · rename_i ti hti
        have := (hT t ti hti).kind
        split at ht
        · rename_i e te hk
          rw [hk] at this
          exact ⟨e, (kind_slice this).1⟩
        · cases ht
      · cases ht
    simp only [Sem.run_bind, hg, Result.andThen_ok]
    split at h
    · injection h with h; injection h with e1 e2; subst e1
      exact ⟨_, run_eql_nilS hb none 0 0, RepD.bool _⟩
    · injection h with h; injection h with e1 e2; subst e1
      exact ⟨_, run_neq_nilS hb none 0 0, RepD.bool _⟩
    · cases h
  · cases h
theorem unop_ok {op : UnOp} {x r : CV E} {u : Value} (hx : RepCV w okS okP ob A x u) (h : unop op x = some r) : ∃ z, (Op.unary op u).run P w = .ok z w ∧ RepCV w okS okP ob A r z := by
  unfold unop at h
  split at h
  · have hu := leaf_bool hx; subst hu; injection h with h; subst h; exact ⟨_, rfl, RepD.bool _⟩
  · have hu := leaf_int hx; subst hu; injection h with h; subst h; exact ⟨_, rfl, RepD.int _ _⟩
  · cases h
end
end Go.Proofs.AM

namespace Go.Proofs.AM
open Go Go.RowKit
variable {E : Env}
theorem fieldsOk_get {P : Program} {tys : Tr TI} : ∀ {fl : List Field} {fs : List (Nat × TypeId)} {f off : Nat} {ft : TypeId}, fieldsOk P tys fl fs = true → fs[f]? = some (off, ft) →
    ∃ fd, fl[f]? = some fd ∧ fd.offset = off ∧ fd.type = ft ∧ sizeT P ft ≠ 0 ∧ ∃ ti, tys.find ft = some ti ∧ ti.size = sizeT P ft
  | [], [], f, off, ft, _, h => by simp at h
  | [], _ :: _, _, _, _, h, _ => by simp [fieldsOk] at h
  | _ :: _, [], _, _, _, h, _ => by simp [fieldsOk] at h
  | fd :: fl, (o, t) :: fs, f, off, ft, h, hf => by
    simp only [fieldsOk, Bool.and_eq_true, beq_iff_eq, Bool.not_eq_true', beq_eq_false_iff_ne] at h
    obtain ⟨h1, h2, h3, h4, h5⟩ := h
    cases f with
    | zero =>
      simp at hf
      obtain ⟨e1, e2⟩ := hf
      subst e1; subst e2
      cases ht : tys.find t with
      | none => rw [ht] at h4; simp at h4
      | some ti => rw [ht] at h4; simp at h4; exact ⟨fd, by simp, h1, h2, h3, ti, rfl, h4⟩
    | succ f =>
      simp at hf
      obtain ⟨fd', g1, g2⟩ := fieldsOk_get h5 hf
      exact ⟨fd', by simpa using g1, g2⟩
theorem sizeOf_T {P : Program} {t : TypeId} {i : TypeInfo} (hi : P.info? t = some i) (w : World) : (sizeOf t).run P w = .ok (sizeT P t) w := by
  simp [sizeOf, typeInfo, hi, sizeT]
section
variable {P : Program} {tys : Tr TI} {C : FC} {s : St E} {A : Asg} {okS : Nat → Nat → Prop} {a : Act} {w : World} {okP : Nat → Prop} {ob : Obs E}
theorem run_fieldAt_of (hT : TysOk E P tys) {t : TypeId} {ti : TI} (ht : tys.find t = some ti) {fs : List (Nat × TypeId)} (hk : ti.kind = .struct fs) {f off : Nat} {ft : TypeId} (hf : fs[f]? = some (off, ft)) (b o : Nat) :
    (Instr.fieldAt t (.pointer (some ⟨b, o, none⟩)) f).run P w = .ok (.pointer (some ⟨b, o + off, none⟩)) w := by
  have h := (hT t ti ht).kind
  rw [hk] at h
  obtain ⟨fields, hu, hfs⟩ := kind_struct h
  obtain ⟨fd, g1, g2, g3, g4, tif, g5, g6⟩ := fieldsOk_get hfs hf
  have hg : fields[f]? = some fd := by rw [← Array.getElem?_toList]; exact g1
  have hsz := run_sizeOf_of (hT ft tif g5) w
  simp [Instr.fieldAt, run_underlying hu, hg, Instr.sureAddr, fieldPlace, g3, hsz, g6, g4, g2, add_plain]
theorem run_indexAt_arr (hT : TysOk E P tys) {t : TypeId} {ti : TI} (ht : tys.find t = some ti) {n : Nat} {e : TypeId} {size : Nat} (hk : ti.kind = .arr n e size) (b o : Nat) (k : IntKind) {i : Int} (h0 : 0 ≤ i) (h1 : i < n) :
    (Instr.indexAt t (.pointer (some ⟨b, o, none⟩)) (.int k i)).run P w = .ok (.pointer (some ⟨b, o + i.toNat * size, none⟩)) w := by
  have h := (hT t ti ht).kind
  rw [hk] at h
  obtain ⟨hu, hs, hz, te, hte, hts⟩ := kind_arr h
  have hsz := run_sizeOf_of (hT e te hte) w
  simp [Instr.indexAt, asIntOf, run_underlying hu, Instr.sureAddr, h0, h1, hsz, hts, add_plain]
theorem sliceTy_some {M : Mach E} (hT : TysOk E P M.tys) {T e : TypeId} {t : Ty} {te : TI} (h : sliceTy M T = some (e, t, te)) :
    P.underlying T = some (.slice e) ∧ M.tys.find e = some te ∧ t = te.ty ∧ nc E t = te.size ∧ te.size ≠ 0 ∧ t ≠ .unit ∧ te.bytes ≠ 0 ∧ ∃ ti, M.tys.find T = some ti ∧ ti.kind = .slice e t := by
  unfold sliceTy at h
  split at h
  · rename_i ti hti
    split at h
    · rename_i e' t' hk
      split at h
      · rename_i te' hte
        split at h
        · cases h
        · rename_i hu
          cases hby : Nat.beq te'.bytes 0 with
          | true => rw [hby] at h; cases h
          | false =>
          rw [hby] at h
          have hby' : te'.bytes ≠ 0 := fun e => by rw [e] at hby; cases hby
          injection h with h; injection h with h1 h2; injection h2 with h2 h3
          subst h1; subst h2; subst h3
          have hh := (hT T ti hti).kind
          rw [hk] at hh
          obtain ⟨g1, tie, g2, g3, g4⟩ := kind_slice hh
          rw [hte] at g2; cases g2
          rcases g4 with g4 | g4
          · exact absurd g4 hu
          · exact ⟨g1, hte, g3, g4.1, g4.2, hu, hby', ti, hti, hk⟩
      · cases h
    · cases h
  · cases h
theorem run_indexAt_of {t e : TypeId} (hu : P.underlying t = some (.slice e)) {sz : Nat} (hs : (sizeOf e).run P w = .ok sz w) (b o len cap : Nat) (k : IntKind) (i : Int) (h0 : 0 ≤ i) (h1 : i < len) :
    (Instr.indexAt t (.slice (some ⟨b, o, none⟩) len cap) (.int k i)).run P w = .ok (.pointer (some ⟨b, o + i.toNat * sz, none⟩)) w := by
  simp [Instr.indexAt, asIntOf, run_underlying hu, hs, h0, h1, add_plain]
theorem inB_iff {i n : Int} : inB i n = true ↔ 0 ≤ i ∧ i < n := by simp [inB]
theorem inS_iff {l h n : Int} : inS l h n = true ↔ 0 ≤ l ∧ l ≤ h ∧ h ≤ n := by simp [inS]
theorem rd_eq {t : Ty} (xs : List (den E.Γ t)) (i : Int) (h0 : 0 ≤ i) (h1 : i < xs.length) : ∃ h : i.toNat < xs.length, rd xs i = xs[i.toNat] := by
  have : i.toNat < xs.length := by omega
  exact ⟨this, by unfold rd; rw [List.getD_eq_getElem?_getD, List.getElem?_eq_getElem this]; rfl⟩
theorem data_index {t e : TypeId} (hu : P.underlying t = some (.slice e)) {te : Ty} (hs : (sizeOf e).run P w = .ok (nc E te) w) {xs : List (den E.Γ te)} {v : Value} (h : RepD E w okS (.slice te) xs [v]) (k : IntKind) (i : Int)
    (hi : inB i xs.length = true) : ∃ z, (Instr.indexAt t v (.int k i)).run P w = .ok z w ∧ RepP E w okS okP te (rd xs i) 0 z := by
  obtain ⟨h0, h1⟩ := inB_iff.1 hi
  rcases RepD.slice_inv h with ⟨p, hv, hx⟩ | ⟨b, off, cap, f, hv, hb, hc, hl, hcell, hrep⟩
  · subst hx; simp at h1; omega
  · simp at hv
    subst hv
    obtain ⟨hlt, hrd⟩ := rd_eq xs i h0 h1
    refine ⟨_, run_indexAt_of hu hs b off _ cap k i h0 h1, ?_⟩
    rw [hrd]
    exact ⟨b, off + i.toNat * nc E te, f i.toNat, rfl, .inl (fun j hj => by have := hb _ (row_lt hlt hj); rwa [← Nat.add_assoc] at this), hl, (hcell _ hlt).1, (hcell _ hlt).2, hrep _ hlt⟩
theorem indexAddr_ok (hE : EnvOk E) {M : Mach E} (hT : TysOk E P M.tys) (I : Inv C s A okS a.tmps w) {T e : TypeId} {te : Ty} {ti : TI} (hs : sliceTy M T = some (e, te, ti)) {x i r : CV E} {u v : Value}
    (hx : RepCV w okS C.okP s.ob A x u) (hi : RepCV w okS C.okP s.ob A i v) (h : indexAddr s te x i = some (r, true)) :
    ∃ z, (Instr.indexAt T u v).run P w = .ok z w ∧ RepCV w okS C.okP s.ob A r z := by
  obtain ⟨hu, hte, hty, hnc, hne, hun, hby, _⟩ := sliceTy_some hT hs
  have hsz := run_sizeOf_of (hT e ti hte) w
  rw [← hnc] at hsz
  unfold indexAddr at h
  split at h
  · rename_i k i'
    have hv := leaf_int hi; subst hv
    split at h
    · rename_i t xs
      split at h
      · rename_i htt; subst htt
        injection h with h; injection h with h1 h2; subst h1
        exact data_index hu hsz hx k i' h2
      · cases h
    · rename_i t o
      split at h
      · rename_i htt; subst htt
        injection h with h; injection h with h1 h2; subst h1
        exact data_index hu hsz (RepD.toSlice hx) k i' h2
      · cases h
    · rename_i n g win
      split at h
      · rename_i t xs ho
        split at h
        · rename_i htt; subst htt
          have hr := hx.2.1 t xs ho
          have hkn := hx.1.1
          cases hB : A.B n with
          | none =>
            unfold RepRef at hr
            simp only [hB] at hr
            obtain ⟨_, hlen⟩ := hr
            cases win with
            | none => simp only at h; injection h with h; injection h with h1 h2; have := inB_iff.1 h2; simp [winLen] at hlen; subst hlen; simp at this; omega
            | some p => obtain ⟨lo, len⟩ := p; simp only at h; injection h with h; injection h with h1 h2; have := inB_iff.1 h2; simp [winLen] at hlen; omega
          | some b =>
            unfold RepRef at hr
            simp only [hB] at hr
            obtain ⟨o, cap, cs, e', hv, hw, hwin, hcap, ho', _⟩ := hr
            subst hv
            cases win with
            | none =>
              simp only at h
              injection h with h; injection h with h1 h2; subst h1
              obtain ⟨b0, b1⟩ := inB_iff.1 h2
              simp only [winLen, winLo] at *
              refine ⟨_, run_indexAt_of hu hsz b o _ cap k i' b0 b1, hkn, rfl, fun t' xs' ho2 => ?_⟩
              rw [St.obj] at ho; rw [ho] at ho2; injection ho2 with ho2; injection ho2 with e1 e2; subst e1; cases e2
              refine ⟨by omega, b, hB, ?_⟩
              rcases ho' with h0 | h0
              · omega
              · rw [h0]; simp [Nat.add_assoc]
            | some p =>
              obtain ⟨lo, len⟩ := p
              simp only at h
              injection h with h; injection h with h1 h2; subst h1
              obtain ⟨b0, b1⟩ := inB_iff.1 h2
              simp only [winLen, winLo] at *
              refine ⟨_, run_indexAt_of hu hsz b o _ cap k i' b0 b1, hkn, rfl, fun t' xs' ho2 => ?_⟩
              rw [St.obj] at ho; rw [ho] at ho2; injection ho2 with ho2; injection ho2 with e1 e2; subst e1; cases e2
              refine ⟨by omega, b, hB, ?_⟩
              rcases ho' with h0 | h0
              · omega
              · rw [h0, Nat.add_mul]; simp [Nat.add_assoc]
        · cases h
      · rename_i t xs ho
        split at h
        · rename_i htt; subst htt
          injection h with h; injection h with h1 h2; subst h1
          exact data_index hu hsz (hx.2.2 t xs ho).1 k i' h2
        · cases h
      · cases h
    · cases h
  · cases h
theorem points_ok (I : Inv C s A okS a.tmps w) {p : CV E} {v : Value} (h : RepCV w okS C.okP s.ob A p v) (hp : points s p = true) : ∃ b o, v = .pointer (some ⟨b, o, none⟩) := by
  cases p with
  | ptr n g off =>
    simp only [points] at hp
    split at hp
    · rename_i cs ho
      obtain ⟨b, _, hv⟩ := h.2.2 cs ho
      exact ⟨_, _, hv⟩
    · cases hp
  | ro t x off => obtain ⟨b, o, cs, hv, _⟩ := h; exact ⟨_, _, hv⟩
  | optr n g i off =>
    simp only [points] at hp
    split at hp
    · rename_i t xs ho
      obtain ⟨_, b, _, hv⟩ := h.2.2 t xs ho
      exact ⟨_, _, hv⟩
    · cases hp
  | _ => simp [points] at hp
theorem advance_ok {p q : CV E} {b o off : Nat} (h : RepCV w okS C.okP s.ob A p (.pointer (some ⟨b, o, none⟩))) (hq : advance off p = some q) : RepCV w okS C.okP s.ob A q (.pointer (some ⟨b, o + off, none⟩)) := by
  cases p with
  | ptr n g o' =>
    simp [advance] at hq; subst hq
    refine ⟨h.1, rfl, fun cs ho => ?_⟩
    obtain ⟨b', hB, hv⟩ := h.2.2 cs ho
    simp at hv
    exact ⟨b', hB, by simp [hv.1, hv.2]⟩
  | ro t x o' =>
    simp [advance] at hq; subst hq
    obtain ⟨b', o2, cs, hv, hh⟩ := h
    simp at hv
    exact ⟨b', o2, cs, by simp [hv.1, hv.2, Nat.add_assoc], hh⟩
  | optr n g i o' =>
    simp [advance] at hq; subst hq
    refine ⟨h.1, rfl, fun t xs ho => ?_⟩
    obtain ⟨hi, b', hB, hv⟩ := h.2.2 t xs ho
    simp at hv
    exact ⟨hi, b', hB, by simp [hv.1, hv.2, Nat.add_assoc]⟩
  | _ => simp [advance] at hq
theorem bound_rep (I : Inv C s A okS a.tmps w) {ch : Chain} (hch : ∀ q b, inChain ch q b = true → a.tmps.getD q undef = .bool b) {d l : Int} {x : Operand} (h : bound s ch d (some x) = some l) : ∃ k, a.eval x = .int k l := by
  simp only [bound] at h
  split at h
  · rename_i k i hx
    injection h with h; subst h
    have := ev_rep I hch x
    rw [hx] at this
    exact ⟨k, leaf_int this⟩
  · cases h
theorem bounds_ok (I : Inv C s A okS a.tmps w) {ch : Chain} (hch : ∀ q b, inChain ch q b = true → a.tmps.getD q undef = .bool b) (isSlice : Bool) {len cap : Nat} (hcap : len ≤ cap) {lo hi : Option Operand} {l h : Int}
    (hl : bound s ch 0 lo = some l) (hh : bound s ch len hi = some h) (hin : inS l h len = true) :
    (Instr.sliceBounds isSlice len cap (lo.map a.eval) (hi.map a.eval) none).run P w = .ok (l.toNat, h.toNat, cap) w := by
  obtain ⟨h0, h1, h2⟩ := inS_iff.1 hin
  have hsb : ∀ (k : IntKind) (i : Int) (y : Nat) (code : BoundsCode), 0 ≤ i → i ≤ y → (Instr.sliceBound (.int k i) y code).run P w = .ok i.toNat w := by
    intro k i y code g0 g1
    simp [Instr.sliceBound, asIntOf, g0, g1]
  cases hi with
  | none =>
    simp only [bound] at hh; injection hh with hh; subst hh
    cases lo with
    | none => simp only [bound] at hl; injection hl with hl; subst hl; simp [Instr.sliceBounds]
    | some x =>
      obtain ⟨k, hx⟩ := bound_rep I hch hl
      have := hsb k l len .sliceB h0 (by omega)
      simp [Instr.sliceBounds, hx, this]
  | some y =>
    obtain ⟨kh, hy⟩ := bound_rep I hch hh
    have e1 := hsb kh h cap (if isSlice then .sliceAcap else .sliceAlen) (by omega) (by omega)
    cases lo with
    | none => simp only [bound] at hl; injection hl with hl; subst hl; simp [Instr.sliceBounds, hy, e1]
    | some x =>
      obtain ⟨k, hx⟩ := bound_rep I hch hl
      have e2 := hsb k l h.toNat .sliceB h0 (by omega)
      simp [Instr.sliceBounds, hx, hy, e1, e2]
theorem run_sliceAt_of {t e : TypeId} (hu : P.underlying t = some (.slice e)) {sz : Nat} (hs : (sizeOf e).run P w = .ok sz w) {p : Option Addr} {len cap l h : Nat} {lo hi : Option Value}
    (hb : (Instr.sliceBounds true len cap lo hi none).run P w = .ok (l, h, cap) w) :
    (Instr.sliceAt t (.slice p len cap) lo hi none).run P w = .ok (.slice (if cap = l then p else p.map (·.add (l * sz))) (h - l) (cap - l)) w := by
  simp [Instr.sliceAt, Instr.slice, run_underlying hu, hb, hs]
theorem sub_eq {α : Type} (xs : List α) {l h : Int} (h0 : 0 ≤ l) (h1 : l ≤ h) (h2 : h ≤ xs.length) : (sub xs l h).length = h.toNat - l.toNat ∧ ∀ (i : Nat) (hi : i < (sub xs l h).length), ∃ hj : l.toNat + i < xs.length, (sub xs l h)[i] = xs[l.toNat + i] := by
  have hl : (sub xs l h).length = h.toNat - l.toNat := by simp only [sub, List.length_drop, List.length_take]; omega
  refine ⟨hl, fun i hi => ?_⟩
  have : l.toNat + i < xs.length := by rw [hl] at hi; omega
  exact ⟨this, by simp [sub]⟩
theorem data_slice {t e : TypeId} (hu : P.underlying t = some (.slice e)) {te : Ty} (hs : (sizeOf e).run P w = .ok (nc E te) w) {xs : List (den E.Γ te)} {v : Value} (hd : RepD E w okS (.slice te) xs [v]) {lo hi : Option Value} {l h : Int}
    (hin : inS l h xs.length = true)
    (hb : ∀ cap, xs.length ≤ cap → (Instr.sliceBounds true xs.length cap lo hi none).run P w = .ok (l.toNat, h.toNat, cap) w) :
    ∃ z, (Instr.sliceAt t v lo hi none).run P w = .ok z w ∧ RepD E w okS (.slice te) (sub xs l h) [z] := by
  obtain ⟨h0, h1, h2⟩ := inS_iff.1 hin
  obtain ⟨hlen, hget⟩ := sub_eq xs h0 h1 h2
  rcases RepD.slice_inv hd with ⟨p, hv, hx⟩ | ⟨b, off, cap, f, hv, hb', hc, hl, hcell, hrep⟩
  · subst hx
    simp at hv; subst hv
    have hl0 : l.toNat = 0 ∧ h.toNat = 0 := by simp at h2; omega
    have := run_sliceAt_of hu hs (p := p) (hb 0 (by simp))
    refine ⟨_, this, ?_⟩
    have hs0 : sub ([] : List (den E.Γ te)) l h = [] := by simp [sub]
    rw [hs0]; simp [hl0.1, hl0.2]; exact RepD.nil _
  · simp at hv
    subst hv
    refine ⟨_, run_sliceAt_of hu hs (p := some ⟨b, off, none⟩) (hb cap hc), ?_⟩
    rw [← hlen]
    by_cases hcl : cap = l.toNat
    · rw [if_pos hcl]
      have hz : (sub xs l h).length = 0 := by
        have : (List.length (α := den E.Γ te) xs : Int) ≤ cap := by exact_mod_cast hc
        rw [hlen]; omega
      refine RepD.slice b off _ (sub xs l h) f (fun k hk => by rw [hz] at hk; simp at hk) (by omega) hl ?_ ?_
      · intro i hi; rw [hz] at hi; exact absurd hi (Nat.not_lt_zero _)
      · intro i hi; exact absurd (hz ▸ hi) (Nat.not_lt_zero _)
    · rw [if_neg hcl]
      simp only [Option.map_some, add_plain]
      have hfit : l.toNat * nc E te + (sub xs l h).length * nc E te ≤ List.length (α := den E.Γ te) xs * nc E te := by
        rw [← Nat.add_mul]
        refine Nat.mul_le_mul_right _ ?_
        rw [hlen]
        have : (List.length (α := den E.Γ te) xs : Int) = ((List.length (α := den E.Γ te) xs : Nat) : Int) := rfl
        omega
      refine RepD.slice b _ _ (sub xs l h) (fun i => f (l.toNat + i)) (fun k hk => by have := hb' (l.toNat * nc E te + k) (by omega); rwa [← Nat.add_assoc] at this) (by rw [hlen]; omega) hl ?_ ?_
      · intro i hi
        obtain ⟨hj, _⟩ := hget i hi
        refine ⟨(hcell _ hj).1, fun j hj' => ?_⟩
        have := (hcell _ hj).2 j hj'
        rw [Nat.add_mul] at this
        rw [← this]
        congr 2; omega
      · intro i hi
        obtain ⟨hj, he⟩ := hget i hi
        rw [he]; exact hrep _ hj
theorem sliceOf_ok (hE : EnvOk E) {M : Mach E} (hT : TysOk E P M.tys) (I : Inv C s A okS a.tmps w) {ch : Chain} (hch : ∀ q b, inChain ch q b = true → a.tmps.getD q undef = .bool b) {T e : TypeId} {te : Ty} {ti : TI} (hs : sliceTy M T = some (e, te, ti))
    {x r : CV E} {u : Value} {lo hi : Option Operand} (hx : RepCV w okS C.okP s.ob A x u) (h : sliceOf s ch te x lo hi = some (r, true)) :
    ∃ z, (Instr.sliceAt T u (lo.map a.eval) (hi.map a.eval) none).run P w = .ok z w ∧ RepCV w okS C.okP s.ob A r z := by
  obtain ⟨hu, hte, hty, hnc, hne, hun, hby, _⟩ := sliceTy_some hT hs
  have hsz := run_sizeOf_of (hT e ti hte) w
  rw [← hnc] at hsz
  unfold sliceOf at h
  split at h
  · rename_i t xs
    split at h
    · rename_i htt; subst htt
      split at h
      · rename_i l h' hl hh
        injection h with h; injection h with h1 h2; subst h1
        exact data_slice hu hsz hx h2 (fun cap hc => bounds_ok I hch true hc hl hh h2)
      · cases h
    · cases h
  · split at h
    · rename_i l h' hl hh
      injection h with h; injection h with h1 h2; subst h1
      have hx : u = .slice none 0 0 := hx
      subst hx
      obtain ⟨g0, g1, g2⟩ := inS_iff.1 h2
      have := run_sliceAt_of hu hsz (p := none) (bounds_ok I hch true (Nat.le_refl 0) hl hh h2)
      refine ⟨_, this, ?_⟩
      have hz : l.toNat = 0 ∧ h'.toNat = 0 := by omega
      show _ = _
      simp [hz.1, hz.2]
    · cases h
  · rename_i n g win
    split at h
    · rename_i t xs ho
      split at h
      · rename_i htt; subst htt
        have hr := hx.2.1 t xs ho
        have hkn := hx.1.1
        have key : ∀ (l h' : Int) (lo' len : Nat), winLo win = lo' → winLen xs.length win = len → bound s ch 0 lo = some l → bound s ch len hi = some h' → inS l h' len = true → r = .ref n g (some (lo' + l.toNat, (h' - l).toNat)) →
            ∃ z, (Instr.sliceAt T u (lo.map a.eval) (hi.map a.eval) none).run P w = .ok z w ∧ RepCV w okS C.okP s.ob A r z := by
          intro l h' lo' len e1 e2 hl hh h2 hr'
          subst hr'
          obtain ⟨g0, g1, g2⟩ := inS_iff.1 h2
          have hsub : (h' - l).toNat = h'.toNat - l.toNat := by omega
          unfold RepRef at hr
          cases hB : A.B n with
          | none =>
            simp only [hB] at hr
            obtain ⟨hv, hz⟩ := hr
            subst hv
            rw [e2] at hz; subst hz
            have := run_sliceAt_of hu hsz (p := none) (bounds_ok I hch true (Nat.le_refl 0) hl hh h2)
            have hz : l.toNat = 0 ∧ h'.toNat = 0 := by omega
            refine ⟨_, this, ⟨hkn, by simp [hz.1, hz.2]; rfl⟩, fun t' xs' ho2 => ?_, fun t' xs' ho2 => ?_⟩
            · unfold RepRef; simp only [hB]; simp [winLen, hz.1, hz.2]; omega
            · rw [St.obj] at ho; rw [ho] at ho2; cases ho2
          | some b =>
            simp only [hB] at hr
            obtain ⟨o, cap, cs, e', hv, hw, hwin, hcap, ho', hsp⟩ := hr
            rw [e2] at hv hcap hwin
            rw [e1] at hwin ho'
            subst hv
            have := run_sliceAt_of hu hsz (p := some ⟨b, o, none⟩) (bounds_ok I hch true hcap hl hh h2)
            refine ⟨_, this, ⟨hkn, by simp [Value.oneCell']⟩, fun t' xs' ho2 => ?_, fun t' xs' ho2 => ?_⟩
            · rw [St.obj] at ho; rw [ho] at ho2; injection ho2 with ho2; injection ho2 with f1 f2; subst f1; cases f2
              unfold RepRef; simp only [hB]
              by_cases hcl : cap = l.toNat
              · refine ⟨o, cap - l.toNat, cs, e', by simp [hcl, winLen, hsub], hw, by simp only [winLo, winLen]; omega, by simp only [winLen]; omega, .inl (by omega), ?_⟩
                have : cap - l.toNat = 0 := by omega
                rw [this]; omega
              · refine ⟨o + l.toNat * nc E t, cap - l.toNat, cs, e', by simp [hcl, winLen, hsub, add_plain], hw, by simp only [winLo, winLen]; omega, by simp only [winLen]; omega, .inr ?_, ?_⟩
                · rcases ho' with h0 | h0
                  · omega
                  · simp only [winLo]; rw [h0, Nat.add_mul]; omega
                · have : l.toNat * nc E t + (cap - l.toNat) * nc E t = cap * nc E t := by rw [← Nat.add_mul]; congr 1; omega
                  omega
            · rw [St.obj] at ho; rw [ho] at ho2; cases ho2
        cases win with
        | none =>
          simp only at h
          split at h
          · rename_i l h' hl hh
            injection h with h; injection h with h1 h2
            exact key l h' 0 xs.length rfl rfl hl hh h2 (by rw [← h1]; simp)
          · cases h
        | some p =>
          obtain ⟨lo', len⟩ := p
          simp only at h
          split at h
          · rename_i l h' hl hh
            injection h with h; injection h with h1 h2
            exact key l h' lo' len rfl rfl hl hh h2 h1.symm
          · cases h
      · cases h
    · rename_i t xs ho
      split at h
      · rename_i htt; subst htt
        split at h
        · rename_i l h' hl hh
          injection h with h; injection h with h1 h2; subst h1
          exact data_slice hu hsz (hx.2.2 t xs ho).1 h2 (fun cap hc => bounds_ok I hch true hc hl hh h2)
        · cases h
      · cases h
    · cases h
  · cases h
theorem sliceStr_ok (I : Inv C s A okS a.tmps w) {ch : Chain} (hch : ∀ q b, inChain ch q b = true → a.tmps.getD q undef = .bool b) {T : TypeId} (hu : P.underlying T = some .string)
    {x r : CV E} {u : Value} {lo hi : Option Operand} (hx : RepCV w okS C.okP s.ob A x u) (h : sliceStr s ch x lo hi = some (r, true)) :
    ∃ z, (Instr.sliceAt T u (lo.map a.eval) (hi.map a.eval) none).run P w = .ok z w ∧ RepCV w okS C.okP s.ob A r z := by
  unfold sliceStr at h
  split at h
  · rename_i b
    have hv := leaf_str hx; subst hv
    split at h
    · rename_i l h' hl hh
      injection h with h; injection h with h1 h2; subst h1
      have hb := bounds_ok (P := P) I hch false (Nat.le_refl _) hl hh h2
      refine ⟨.string (subS b l h'), ?_, RepD.str _⟩
      simp [Instr.sliceAt, Instr.slice, run_underlying hu, hb, subS]
    · cases h
  · cases h
end
end Go.Proofs.AM

namespace Go.Proofs.AM
open Go Go.RowKit
variable {E : Env}
theorem zeroF_rep {w : World} {ok : Nat → Nat → Prop} : ∀ (t : Ty) (l : List Value), zeroF E t l = true → RepD E w ok t (dflt E t) l
  | .unit, l, h => by simp only [zeroF] at h; split at h <;> first | exact .unit | cases h
  | .int k, l, h => by
    simp only [zeroF] at h
    split at h
    · rename_i j n; simp only [Bool.and_eq_true, beq_iff_eq] at h; rw [h.1, h.2]; exact .int _ _
    · cases h
  | .bool, l, h => by simp only [zeroF] at h; split at h <;> first | exact .bool _ | cases h
  | .str, l, h => by
    simp only [zeroF] at h
    split at h
    · rename_i s; simp only [beq_iff_eq] at h; rw [bytes_ext (a := s) (b := ⟨#[]⟩) h]; exact .str _
    · cases h
  | .slice t, l, h => by simp only [zeroF] at h; split at h <;> first | exact .nil _ | cases h
  | .pair a b, l, h => by
    simp only [zeroF, Bool.and_eq_true] at h
    have := RepD.pair (zeroF_rep a _ h.1) (zeroF_rep b _ h.2) (w := w) (ok := ok)
    rwa [List.take_append_drop] at this
  | .nom n, l, h => by simp [zeroF] at h
  | .opt t, l, h => by simp [zeroF] at h
theorem zeroOk_rep (hE : EnvOk E) {w : World} {ok : Nat → Nat → Prop} : ∀ (t : Ty) (l : List Value), zeroOk E t l = true → RepD E w ok t (dflt E t) l
  | .unit, l, h => by simp only [zeroOk] at h; split at h <;> first | exact .unit | cases h
  | .int k, l, h => zeroF_rep (.int k) l h
  | .bool, l, h => zeroF_rep .bool l h
  | .str, l, h => zeroF_rep .str l h
  | .slice t, l, h => by simp only [zeroOk] at h; split at h <;> first | exact .nil _ | cases h
  | .pair a b, l, h => by
    simp only [zeroOk, Bool.and_eq_true] at h
    have := RepD.pair (zeroOk_rep hE a _ h.1) (zeroOk_rep hE b _ h.2) (w := w) (ok := ok)
    rwa [List.take_append_drop] at this
  | .nom n, l, h => by
    simp only [zeroOk] at h
    refine .nom ?_
    show RepD E w ok (E.row n) (E.op n (E.dflt n)) l
    rw [hE.zero]; exact zeroF_rep _ _ h
  | .opt t, l, h => by simp [zeroOk] at h
section
variable {P : Program} {tys : Tr TI} {C : FC} {s : St E} {A : Asg} {okS : Nat → Nat → Prop} {a : Act} {w : World} {okP : Nat → Prop} {ob : Obs E}
theorem run_part_of {t : TypeId} {ti : TI} (h : TIOk E P tys t ti) (vs : List Value) (off : Nat) (r : List Value) (hr : r = (vs.drop off).take ti.size) (hl : r.length = ti.size) (w : World) :
    (ti.agg = true → (part t vs.toArray off).run P w = .ok (.agg r.toArray) w) ∧ (ti.agg = false → ∀ v, r = [v] → (part t vs.toArray off).run P w = .ok v w) := by
  have ha := run_isAgg_of h w
  have hs := run_sizeOf_of h w
  constructor
  · intro hag
    rw [hag] at ha
    simp only [part, Sem.run_bind, ha, Result.andThen_ok, if_true, hs, Sem.run_pure]
    congr 2
    apply Array.ext'
    simp [hr]
    done
  · intro hag v hv
    rw [hag] at ha
    subst hv
    simp at hl
    have h0 : vs[off]? = some v := by
      have := congrArg (fun l => l[0]?) hr
      simp [← hl] at this
      exact this.symm
    simp [part, Sem.run_bind, ha, h0]
theorem field_ok (hT : TysOk E P tys) {t : TypeId} {ti : TI} (ht : tys.find t = some ti) {fs : List (Nat × TypeId)} (hk : ti.kind = .struct fs) {f off : Nat} {ft : TypeId} (hf : fs[f]? = some (off, ft))
    {tf : TI} (htf : tys.find ft = some tf) {cs r : List (CV E)} {vs : List Value} {k : SV E} (hrep : All2 (RepCV w okS okP ob A) cs vs) (hr : takeAt cs off tf.size = some r) (hm : mkSV tf.agg r = some k) :
    ∃ z, (Instr.field t (.agg vs.toArray) f).run P w = .ok z w ∧ RepSV w okS okP ob A a.tmps k z := by
  have h := (hT t ti ht).kind
  rw [hk] at h
  obtain ⟨fields, hu, hfs⟩ := kind_struct h
  obtain ⟨fd, g1, g2, g3, g4, tif, g5, g6⟩ := fieldsOk_get hfs hf
  have hg : fields[f]? = some fd := by rw [← Array.getElem?_toList]; exact g1
  obtain ⟨hr1, hr2⟩ := takeAt_some hr
  have hrep' : All2 (RepCV w okS okP ob A) r ((vs.drop off).take tf.size) := by rw [hr1]; exact (hrep.drop off).take _
  have hlen : ((vs.drop off).take tf.size).length = tf.size := by rw [← hrep'.length, hr2]
  have hrun := run_part_of (hT ft tf htf) vs off _ rfl hlen w
  obtain ⟨m1, m2⟩ := mkSV_rep (tmps := a.tmps) hrep' hm
  have hfield : (Instr.field t (.agg vs.toArray) f).run P w = (part ft vs.toArray off).run P w := by
    simp [Instr.field, run_underlying hu, hg, asAgg, g2, g3]
  rw [hfield]
  cases hagg : tf.agg with
  | true => exact ⟨_, hrun.1 hagg, m1 hagg⟩
  | false => obtain ⟨x, hx, hr⟩ := m2 hagg; exact ⟨x, hrun.2 hagg x hx, hr⟩
theorem index_arr_ok (hT : TysOk E P tys) {t : TypeId} {ti : TI} (ht : tys.find t = some ti) {n : Nat} {e : TypeId} {size : Nat} (hk : ti.kind = .arr n e size) {kd : IntKind} {i : Int} (h0 : 0 ≤ i) (h1 : i < n)
    {tf : TI} (htf : tys.find e = some tf) {cs r : List (CV E)} {vs : List Value} {k : SV E} (hrep : All2 (RepCV w okS okP ob A) cs vs) (hr : takeAt cs (i.toNat * size) size = some r) (hm : mkSV tf.agg r = some k) :
    ∃ z, (Instr.index t (.agg vs.toArray) (.int kd i)).run P w = .ok z w ∧ RepSV w okS okP ob A a.tmps k z := by
  have h := (hT t ti ht).kind
  rw [hk] at h
  obtain ⟨hu, hs, hz, te, hte, hts⟩ := kind_arr h
  rw [htf] at hte; injection hte with hte; subst hte
  obtain ⟨hr1, hr2⟩ := takeAt_some hr
  rw [← hts] at hr1 hr2
  have hrep' : All2 (RepCV w okS okP ob A) r ((vs.drop (i.toNat * tf.size)).take tf.size) := by rw [hr1]; exact (hrep.drop _).take _
  have hlen : ((vs.drop (i.toNat * tf.size)).take tf.size).length = tf.size := by rw [← hrep'.length, hr2]
  have hrun := run_part_of (hT e tf htf) vs (i.toNat * tf.size) _ rfl hlen w
  have hsz := run_sizeOf_of (hT e tf htf) w
  obtain ⟨m1, m2⟩ := mkSV_rep (tmps := a.tmps) hrep' hm
  have hfield : (Instr.index t (.agg vs.toArray) (.int kd i)).run P w = (part e vs.toArray (i.toNat * tf.size)).run P w := by
    simp [Instr.index, asIntOf, run_underlying hu, h0, h1, hsz]
  rw [hfield]
  cases hagg : tf.agg with
  | true => exact ⟨_, hrun.1 hagg, m1 hagg⟩
  | false => obtain ⟨x, hx, hr⟩ := m2 hagg; exact ⟨x, hrun.2 hagg x hx, hr⟩
theorem eqCells_append : ∀ {c1 d1 c2 d2 : List (CV E)} {b : Bool}, c1.length = d1.length → eqCells (c1 ++ c2) (d1 ++ d2) = some b → ∃ b1 b2, eqCells c1 d1 = some b1 ∧ eqCells c2 d2 = some b2 ∧ b = (b1 && b2)
  | [], [], c2, d2, b, _, h => ⟨true, b, rfl, by simpa using h, by simp⟩
  | [], _ :: _, _, _, _, hl, _ => by simp at hl
  | _ :: _, [], _, _, _, hl, _ => by simp at hl
  | [x], [y], [], [], b, _, h => ⟨b, true, by simpa using h, rfl, by simp⟩
  | [x], [y], [], d :: ds, b, _, h => by
    simp only [List.cons_append, List.nil_append] at h
    unfold eqCells at h
    cases hh : eqCell x y with
    | none => rw [hh] at h; simp at h
    | some q => rw [hh] at h; simp [eqCells] at h
  | [x], [y], c :: cs, ds, b, _, h => by
    simp only [List.cons_append, List.nil_append] at h
    unfold eqCells at h
    cases hh : eqCell x y with
    | none => rw [hh] at h; cases ds <;> simp at h
    | some q =>
      rw [hh] at h
      cases hh2 : eqCells (c :: cs) ds with
      | none => rw [hh2] at h; simp at h
      | some q2 => rw [hh2] at h; simp at h; exact ⟨q, q2, by simpa [eqCells] using hh, rfl, h.symm⟩
  | x :: x' :: xs, [y], _, _, _, hl, _ => by simp at hl
  | [x], y :: y' :: ys, _, _, _, hl, _ => by simp at hl
  | x :: x' :: xs, y :: y' :: ys, c2, d2, b, hl, h => by
    simp only [List.cons_append] at h
    unfold eqCells at h
    cases hh : eqCell x y with
    | none => rw [hh] at h; simp at h
    | some q =>
      rw [hh] at h
      cases hh2 : eqCells (x' :: (xs ++ c2)) (y' :: (ys ++ d2)) with
      | none => rw [hh2] at h; simp at h
      | some q2 =>
        rw [hh2] at h
        simp at h
        obtain ⟨b1, b2, e1, e2, e3⟩ := eqCells_append (c1 := x' :: xs) (d1 := y' :: ys) (c2 := c2) (d2 := d2) (by simpa using hl) (by simpa using hh2)
        refine ⟨q && b1, b2, ?_, e2, ?_⟩
        · simp [eqCells, hh, e1]
        · rw [← h, e3, Bool.and_assoc]
theorem eqCell_run {x y : CV E} {u v : Value} {b : Bool} (hx : RepCV w okS okP ob A x u) (hy : RepCV w okS okP ob A y v) (h : eqCell x y = some b) {t : TypeId} {T : Ty} {d : Nat} (ht : flatTys P (d + 1) t = some [T]) (hT : leafTy x T = true)
    (hr : isRowT P t = false) (k : Nat) : (Op.equalIn (k + 1) t u v).run P w = .ok b w := by
  unfold flatTys at ht
  unfold eqCell at h
  split at h
  · rename_i j p k' q
    have hu := leaf_int hx; have hv := leaf_int hy; subst hu; subst hv
    split at h
    · rename_i hjk; subst hjk
      injection h with h; subst h
      simp only [leafTy, beq_iff_eq] at hT
      subst hT
      split at ht
      · rename_i k'' hk; rw [run_equalIn_int (P := P) w k t j k'' p q hk]; rfl
      · simp at ht
      · simp at ht
      · rename_i fs hfs; simp [isRowT, hfs] at hr
      · cases ht
    · cases h
  · rename_i p q
    have hu := leaf_bool hx; have hv := leaf_bool hy; subst hu; subst hv
    injection h with h; subst h
    simp only [leafTy, beq_iff_eq] at hT
    subst hT
    split at ht
    · simp at ht
    · rename_i hk; rw [run_equalIn_bool' (P := P) w k t p q hk]
    · simp at ht
    · rename_i fs hfs; simp [isRowT, hfs] at hr
    · cases ht
  · rename_i p q
    have hu := leaf_str hx; have hv := leaf_str hy; subst hu; subst hv
    injection h with h; subst h
    simp only [leafTy, beq_iff_eq] at hT
    subst hT
    split at ht
    · simp at ht
    · simp at ht
    · rename_i hk; rw [run_equalIn_string (P := P) w k t p q hk]; simp only [toList_data']; rfl
    · rename_i fs hfs; simp [isRowT, hfs] at hr
    · cases ht
  · cases h
theorem leafTys_append : ∀ {cs : List (CV E)} {ts us : List Ty}, leafTys cs (ts ++ us) = true → leafTys (cs.take ts.length) ts = true ∧ leafTys (cs.drop ts.length) us = true ∧ (cs.take ts.length).length = ts.length
  | cs, [], us, h => by simpa [leafTys] using h
  | [], t :: ts, us, h => by simp [leafTys] at h
  | c :: cs, t :: ts, us, h => by
    simp only [List.cons_append, leafTys, Bool.and_eq_true] at h
    obtain ⟨e1, e2, e3⟩ := leafTys_append h.2
    refine ⟨by simp [leafTys, h.1, e1], by simpa using e2, by simpa using e3⟩
theorem eqCells_length : ∀ {cs ds : List (CV E)} {b : Bool}, eqCells cs ds = some b → cs.length = ds.length
  | [], [], _, _ => rfl
  | [], _ :: _, _, h => by simp [eqCells] at h
  | [_], [], _, h => by simp [eqCells] at h
  | [_], [_], _, _ => rfl
  | [x], y :: d :: ds, _, h => by unfold eqCells at h; cases hh : eqCell x y <;> rw [hh] at h <;> simp [eqCells] at h
  | x :: x' :: xs, [], _, h => by simp [eqCells] at h
  | x :: x' :: xs, y :: ys, b, h => by
    unfold eqCells at h
    cases hh : eqCell x y with
    | none => rw [hh] at h; simp at h
    | some q =>
      rw [hh] at h
      cases hh2 : eqCells (x' :: xs) ys with
      | none => rw [hh2] at h; simp at h
      | some q2 => have := eqCells_length hh2; simpa using this
theorem fieldsOf_eq {t : TypeId} {fs : Array Field} (h : P.underlying t = some (.struct fs)) : P.underlying t = some (.struct (P.fieldsOf t)) ∧ P.fieldsOf t = fs := by
  have : P.fieldsOf t = fs := by simp [Program.fieldsOf, h]
  rw [this]; exact ⟨h, rfl⟩
theorem sizeT_info {t : TypeId} (h : sizeT P t ≠ 0) : ∃ i, P.info? t = some i := by
  unfold sizeT at h
  cases hi : P.info? t with
  | none => rw [hi] at h; simp at h
  | some i => exact ⟨i, rfl⟩
theorem run_part_raw {t : TypeId} {d : TypeDesc} (hu : P.underlying t = some d) (hz : sizeT P t ≠ 0) (vs : List Value) (off : Nat) (w : World) :
    (part t vs.toArray off).run P w = if isRowT P t = true then .ok (.agg ((vs.drop off).take (sizeT P t)).toArray) w else (match vs[off]? with | some v => .ok v w | none => (part t vs.toArray off).run P w) := by
  obtain ⟨i, hi⟩ := sizeT_info hz
  have hs := sizeOf_T hi w
  have ha : (isAgg t).run P w = .ok (isRowT P t) w := by
    unfold isAgg
    rw [Sem.run_bind, run_underlying hu w]
    unfold isRowT
    rw [hu]
    cases d <;> rfl
  cases hr : isRowT P t with
  | true =>
    rw [hr] at ha
    simp only [part, Sem.run_bind, ha, Result.andThen_ok, if_true, hs, Sem.run_pure]
    congr 2
    apply Array.ext'
    simp
    done
  | false =>
    rw [hr] at ha
    cases hv : vs[off]? with
    | none => simp
    | some v => simp [part, Sem.run_bind, ha, hv]
theorem eqFields_run (d k : Nat) (ih : ∀ (t : TypeId) (ts : List Ty), flatTys P d t = some ts → isRowT P t = true → ∀ (cs ds : List (CV E)) (xs ys : List Value) (b : Bool), All2 (RepCV w okS okP ob A) cs xs → All2 (RepCV w okS okP ob A) ds ys → leafTys cs ts = true → eqCells cs ds = some b →
      (Op.equalIn (d + k) t (.agg xs.toArray) (.agg ys.toArray)).run P w = .ok b w) (hd : d ≠ 0) :
    ∀ (fs : List Field) (o : Nat) (ts : List Ty), flatFields P (flatTys P d) o fs = some ts → ∀ (cs ds : List (CV E)) (X Y : List Value) (b : Bool), All2 (RepCV w okS okP ob A) cs (X.drop o) → All2 (RepCV w okS okP ob A) ds (Y.drop o) → leafTys cs ts = true → eqCells cs ds = some b →
      (Op.eqFields (d + k) X.toArray Y.toArray fs).run P w = .ok b w
  | [], o, ts, h, cs, ds, X, Y, b, hx, hy, ht, he => by
    simp only [flatFields] at h
    injection h with h; subst h
    cases cs with
    | cons c cs => simp [leafTys] at ht
    | nil => cases ds with
      | cons c cs => simp [eqCells] at he
      | nil => simp [eqCells] at he; subst he; rfl
  | f :: fs, o, ts, h, cs, ds, X, Y, b, hx, hy, ht, he => by
    simp only [flatFields] at h
    split at h
    · rename_i ts1 hts1
      split at h
      · rename_i hc
        obtain ⟨c1, c2, c3, c4⟩ := hc
        cases hr : flatFields P (flatTys P d) (o + ts1.length) fs with
        | none => rw [hr] at h; simp at h
        | some ts2 =>
          rw [hr] at h
          simp at h
          subst h
          obtain ⟨l1, l2, l3⟩ := leafTys_append ht
          have hlen := eqCells_length he
          have hcs : cs = cs.take ts1.length ++ cs.drop ts1.length := (List.take_append_drop _ _).symm
          have hds : ds = ds.take ts1.length ++ ds.drop ts1.length := (List.take_append_drop _ _).symm
          have hl' : (cs.take ts1.length).length = (ds.take ts1.length).length := by simp [hlen]
          rw [hcs, hds] at he
          obtain ⟨b1, b2, e1, e2, e3⟩ := eqCells_append hl' he
          have hz : sizeT P f.type ≠ 0 := by rw [c3]; exact c4
          obtain ⟨dd, hu⟩ : ∃ dd, P.underlying f.type = some dd := by
            cases d with
            | zero => exact absurd rfl hd
            | succ d =>
              unfold flatTys at hts1
              split at hts1 <;> first | exact ⟨_, by assumption⟩ | cases hts1
          have p1 := run_part_raw hu hz X f.offset w
          have p2 := run_part_raw hu hz Y f.offset w
          rw [c2, c3] at p1 p2
          have hx1 := hx.take ts1.length
          have hy1 := hy.take ts1.length
          have hx2 := hx.drop ts1.length
          have hy2 := hy.drop ts1.length
          rw [List.drop_drop] at hx2 hy2
          have ihr := eqFields_run d k ih hd fs (o + ts1.length) ts2 hr (cs.drop ts1.length) (ds.drop ts1.length) X Y b2 hx2 hy2 l2 e2
          have hfin : ∀ (u v : Value), (part f.type X.toArray f.offset).run P w = .ok u w → (part f.type Y.toArray f.offset).run P w = .ok v w → (Op.equalIn (d + k) f.type u v).run P w = .ok b1 w →
              (Op.eqFields (d + k) X.toArray Y.toArray (f :: fs)).run P w = .ok b w := by
            intro u v q1 q2 q3
            simp only [Op.eqFields, ne_eq, c1, not_false_eq_true, if_true, Sem.run_bind, q1, q2, q3, Result.andThen_ok, Sem.run_ite]
            cases b1 with
            | true => simp [ihr, e3]
            | false => simp [e3]
          rw [c2] at hfin
          cases hrow : isRowT P f.type with
          | true =>
            rw [if_pos hrow] at p1 p2
            exact hfin _ _ p1 p2 (ih f.type ts1 hts1 hrow _ _ _ _ _ hx1 hy1 l1 e1)
          | false =>
            rw [if_neg (by simp [hrow])] at p1 p2
            cases d with
            | zero => exact absurd rfl hd
            | succ d =>
              have h1 : ts1.length = 1 := by
                unfold flatTys at hts1
                split at hts1
                · injection hts1 with hts1; rw [← hts1]; rfl
                · injection hts1 with hts1; rw [← hts1]; rfl
                · injection hts1 with hts1; rw [← hts1]; rfl
                · rename_i fs' hfs'; simp [isRowT, hfs'] at hrow
                · cases hts1
              obtain ⟨T, hT⟩ : ∃ T, ts1 = [T] := List.length_eq_one_iff.1 h1
              subst hT
              simp only [List.length_cons, List.length_nil, Nat.zero_add] at *
              obtain ⟨c, hc⟩ : ∃ c, cs.take 1 = [c] := List.length_eq_one_iff.1 l3
              obtain ⟨c', hc'⟩ : ∃ c, ds.take 1 = [c] := List.length_eq_one_iff.1 (by rw [← hl']; exact l3)
              rw [hc] at hx1 e1 l1
              rw [hc'] at hy1 e1
              obtain ⟨u, hu1⟩ : ∃ u, (X.drop o).take 1 = [u] := List.length_eq_one_iff.1 (by rw [← hx1.length]; rfl)
              obtain ⟨v, hv1⟩ : ∃ u, (Y.drop o).take 1 = [u] := List.length_eq_one_iff.1 (by rw [← hy1.length]; rfl)
              rw [hu1] at hx1; rw [hv1] at hy1
              have gx : X[o]? = some u := by have := congrArg (fun l => l[0]?) hu1; simpa using this
              have gy : Y[o]? = some v := by have := congrArg (fun l => l[0]?) hv1; simpa using this
              rw [gx] at p1; rw [gy] at p2
              refine hfin u v p1 p2 ?_
              cases hx1 with
              | cons rx _ => cases hy1 with
                | cons ry _ =>
                  have := eqCell_run (P := P) rx ry (by simpa [eqCells] using e1) hts1 (by simpa [leafTys] using l1) hrow (d + k)
                  rwa [show d + 1 + k = d + k + 1 by omega]
      · cases h
    · cases h
theorem equalIn_flat : ∀ (d k : Nat) (t : TypeId) (ts : List Ty), flatTys P d t = some ts → isRowT P t = true → ∀ (cs ds : List (CV E)) (xs ys : List Value) (b : Bool), All2 (RepCV w okS okP ob A) cs xs → All2 (RepCV w okS okP ob A) ds ys → leafTys cs ts = true → eqCells cs ds = some b →
      (Op.equalIn (d + k) t (.agg xs.toArray) (.agg ys.toArray)).run P w = .ok b w
  | 0, _, _, _, h, _, _, _, _, _, _, _, _, _, _ => by simp [flatTys] at h
  | d + 1, k, t, ts, h, hrow, cs, ds, xs, ys, b, hx, hy, ht, he => by
    unfold flatTys at h
    split at h
    · rename_i hu; simp [isRowT, hu] at hrow
    · rename_i hu; simp [isRowT, hu] at hrow
    · rename_i hu; simp [isRowT, hu] at hrow
    · rename_i fs hu
      split at h
      · rename_i hst
        obtain ⟨g1, g2⟩ := fieldsOf_eq hu
        rw [show d + 1 + k = d + k + 1 by omega, run_equalIn_struct (P := P) w (d + k) t _ _ g1 hst, g2]
        by_cases hd : d = 0
        · subst hd
          cases hfl : fs.toList with
          | nil =>
            rw [hfl] at h
            simp [flatFields] at h; subst h
            cases cs with
            | cons c cs => simp [leafTys] at ht
            | nil => cases ds with
              | cons c cs => simp [eqCells] at he
              | nil => simp [eqCells] at he; subst he; rfl
          | cons f r => rw [hfl] at h; simp [flatFields, flatTys] at h
        · exact eqFields_run d k (fun t ts h hr => equalIn_flat d k t ts h hr) hd fs.toList 0 ts h cs ds xs ys b (by simpa using hx) (by simpa using hy) ht he
      · cases h
    · cases h
theorem eqAgg_ok {M : Mach E} (hT : TysOk E P M.tys) {t : TypeId} {cs ds : List (CV E)} {xs ys : List Value} {b : Bool} (hx : All2 (RepCV w okS okP ob A) cs xs) (hy : All2 (RepCV w okS okP ob A) ds ys) (ht : eqTy M t cs = true) (he : eqCells cs ds = some b) (ox oy : Operand) :
    (do eqGuard .eql t ox oy (.agg xs.toArray) (.agg ys.toArray); binOp .eql t (.agg xs.toArray) (.agg ys.toArray) : Sem Value).run P w = .ok (.bool b) w ∧
    (do eqGuard .neq t ox oy (.agg xs.toArray) (.agg ys.toArray); binOp .neq t (.agg xs.toArray) (.agg ys.toArray) : Sem Value).run P w = .ok (.bool (!b)) w := by
  unfold eqTy at ht
  split at ht
  · rename_i ti hti
    simp only [Bool.and_eq_true] at ht
    obtain ⟨f1, f2, f3⟩ := (hT t ti hti).flat ht.1
    have := equalIn_flat (P := P) 10 9990 t _ f2 f1 cs ds xs ys b hx hy ht.2 he
    have g1 := run_eqGuard_agg (P := P) w .eql t ox oy xs.toArray ys.toArray f3
    have g2 := run_eqGuard_agg (P := P) w .neq t ox oy xs.toArray ys.toArray f3
    simp only [Sem.run_bind, g1, g2, Result.andThen_ok, run_eql_struct, run_neq_struct]
    simp only [show (10000 : Nat) = 10 + 9990 from rfl, this, Result.andThen_ok]
    constructor <;> first | rfl | trivial
  · cases ht
theorem len_ok {M : Mach E} (hT : TysOk E P M.tys) {t : TypeId} {x : CV E} {v : Value} {n : Int} (hx : RepCV w okS C.okP s.ob A x v) (ht : lenTy M t x = true) (h : lenOf s x = some n) (ty : TypeId) :
    (Builtin.len_ #[t] ty #[v]).run P w = .ok (.int .i64 n) w := by
  have hsl : ∀ e, P.underlying t = some (.slice e) → ∀ p m c, v = .slice p m c → (m : Int) = n → (Builtin.len_ #[t] ty #[v]).run P w = .ok (.int .i64 n) w := by
    intro e hu p m c hv hm
    subst hv; subst hm
    simp [Builtin.len_, run_underlying hu, goInt]
  have hdat : ∀ (tt : Ty) (xs : List (den E.Γ tt)), RepD E w okS (.slice tt) xs [v] → ∃ p c, v = .slice p xs.length c := by
    intro tt xs hd
    rcases RepD.slice_inv hd with ⟨p, hv, hx⟩ | ⟨b, off, cap, f, hv, _⟩
    · simp at hv; subst hx; exact ⟨_, _, hv⟩
    · simp at hv; exact ⟨_, _, hv⟩
  unfold lenTy at ht
  split at ht
  · rename_i ti hti
    have hk := (hT t ti hti).kind
    split at ht
    · rename_i b hkk
      rw [hkk] at hk
      have hv := leaf_str hx; subst hv
      simp only [lenOf] at h; injection h with h; subst h
      simp [Builtin.len_, run_underlying (kind_str hk), goInt]
    · rename_i e te tt xs hkk
      rw [hkk] at hk
      simp only [lenOf] at h; injection h with h
      obtain ⟨p, c, hv⟩ := hdat tt xs hx
      exact hsl e (kind_slice hk).1 _ _ _ hv h
    · rename_i e te tt o hkk
      rw [hkk] at hk
      simp only [lenOf] at h; injection h with h
      obtain ⟨p, c, hv⟩ := hdat tt _ (RepD.toSlice hx)
      exact hsl e (kind_slice hk).1 _ _ _ hv h
    · rename_i e te hkk
      rw [hkk] at hk
      simp only [lenOf] at h; injection h with h
      have hv : v = .slice none 0 0 := hx
      exact hsl e (kind_slice hk).1 _ _ _ hv (by simpa using h)
    · rename_i e te n' g win hkk
      rw [hkk] at hk
      simp only [lenOf] at h
      split at h
      · rename_i tt xs ho
        have hr := hx.2.1 tt xs ho
        have hlen : (winLen xs.length win : Int) = n := by
          cases win with
          | none => simp only at h; injection h
          | some p => obtain ⟨lo, len⟩ := p; simp only at h; injection h
        unfold RepRef at hr
        cases hB : A.B n' with
        | none => simp only [hB] at hr; exact hsl e (kind_slice hk).1 _ _ _ hr.1 (by rw [← hlen, hr.2])
        | some b => simp only [hB] at hr; obtain ⟨o, cap, cs, e', hv, _⟩ := hr; exact hsl e (kind_slice hk).1 _ _ _ hv hlen
      · rename_i tt xs ho
        injection h with h
        obtain ⟨p, c, hv⟩ := hdat tt _ (hx.2.2 tt xs ho).1
        exact hsl e (kind_slice hk).1 _ _ _ hv h
      · cases h
    · cases ht
  · cases ht
theorem min_run (x y : Int) (ts : Array TypeId) (ty : TypeId) : (Builtin.min_ ts ty #[.int .i64 x, .int .i64 y]).run P w = .ok (.int .i64 (cond (decide (y < x)) y x)) w := by
  by_cases h : y < x <;> simp [Builtin.min_, Builtin.min2, h]
theorem max_run (x y : Int) (ts : Array TypeId) (ty : TypeId) : (Builtin.max_ ts ty #[.int .i64 x, .int .i64 y]).run P w = .ok (.int .i64 (cond (decide (x < y)) y x)) w := by
  by_cases h : x < y <;> simp [Builtin.max_, Builtin.max2, h]
theorem conv_int {src dst : TypeId} {k j : IntKind} {n : Int} (hs : ∃ d, P.underlying src = some d) (hd : P.underlying dst = some (.int k)) : (convert src dst (.int j n)).run P w = .ok (.int k (k.wrap n)) w := by
  obtain ⟨d, hs⟩ := hs
  simp [convert, run_underlying hs, run_underlying hd, Conv.intToInt]
theorem conv_str {src dst : TypeId} {b : ByteArray} (hs : ∃ d, P.underlying src = some d) (hd : P.underlying dst = some .string) : (convert src dst (.string b)).run P w = .ok (.string b) w := by
  obtain ⟨d, hs⟩ := hs
  simp [convert, run_underlying hs, run_underlying hd]
theorem makeInterface_run {t : TypeId} {ti : TI} (h : TIOk E P tys t ti) (hk : ∀ x, ti.kind = x → x ≠ .other) (v : Value) : (Instr.makeInterface t v).run P w = .ok (.iface t v) w := by
  have hc : ∃ d, P.underlying t = some d ∧ ∀ ms, d ≠ .interface ms := by
    have := h.kind
    cases hkk : ti.kind with
    | int k => rw [hkk] at this; exact ⟨_, kind_int this, fun _ h => (by cases h)⟩
    | bool => rw [hkk] at this; exact ⟨_, kind_bool this, fun _ h => (by cases h)⟩
    | str => rw [hkk] at this; exact ⟨_, kind_str this, fun _ h => (by cases h)⟩
    | slice e te => rw [hkk] at this; exact ⟨_, (kind_slice this).1, fun _ h => (by cases h)⟩
    | struct fs => rw [hkk] at this; obtain ⟨f, hf, _⟩ := kind_struct this; exact ⟨_, hf, fun _ h => (by cases h)⟩
    | arr n e size => rw [hkk] at this; exact ⟨_, (kind_arr this).1, fun _ h => (by cases h)⟩
    | other => exact absurd rfl (hk _ hkk)
  obtain ⟨d, hd, hn⟩ := hc
  simp only [Instr.makeInterface, Sem.run_bind, run_underlying hd, Result.andThen_ok]
  cases d <;> first | rfl | exact absurd rfl (hn _)
theorem caps_ok (I : Inv C s A okS a.tmps w) {ch : Chain} (hch : ∀ q b, inChain ch q b = true → a.tmps.getD q undef = .bool b) : ∀ (l : List Operand) (caps : List (Cap E)),
    l.mapM (fun x => match ev s ch x with
        | .c (.ptr n g 0) => some (Cap.box n g)
        | .c (.ro t x 0) => some (Cap.ro t x)
        | _ => none) = some caps → All2 (RepCap w okS C.okP s.ob A) caps (l.map a.eval)
  | [], caps, h => by simp at h; subst h; exact .nil
  | x :: l, caps, h => by
    simp only [List.mapM_cons, Option.bind_eq_bind, Option.bind_eq_some_iff, Option.pure_def, Option.some.injEq] at h
    obtain ⟨c, hc, r, hr, he⟩ := h
    subst he
    refine .cons ?_ (caps_ok I hch l r hr)
    have hev := ev_rep I hch x
    split at hc
    · rename_i n g hx
      injection hc with hc; subst hc
      rw [hx] at hev
      exact ⟨hev.1, hev.2.2⟩
    · rename_i t y hx
      injection hc with hc; subst hc
      rw [hx] at hev
      exact hev
    · cases hc
end
theorem foldl_lay (l : List Value) : ∀ (k off : Nat) (cs : Array Value), (l.zipIdx k).foldl (fun cs (p : Value × Nat) => cs.setIfInBounds (off + p.2) p.1) cs = layA cs (off + k) l := by
  induction l with
  | nil => intro k off cs; rfl
  | cons v r ih =>
    intro k off cs
    rw [List.zipIdx_cons, List.foldl_cons, ih, layA]
    rfl
theorem layA_list (vs : List Value) (cs : Array Value) (o : Nat) (h : o + vs.length ≤ cs.size) : (layA cs o vs).toList = splice cs.toList o vs := by
  apply List.ext_getElem?
  intro k
  rw [Array.getElem?_toList, layA_get vs cs o k h, splice]
  by_cases h1 : o ≤ k ∧ k < o + vs.length
  · rw [if_pos h1, List.getElem?_append_left (by simp; omega), List.getElem?_append_right (by simp; omega)]
    congr 1
    simp; omega
  · rw [if_neg h1]
    by_cases h2 : k < o
    · rw [List.getElem?_append_left (by simp; omega), List.getElem?_append_left (by simp; omega), List.getElem?_take]
      simp [h2]
    · rw [List.getElem?_append_right (by simp; omega)]
      simp
      congr 1; omega
theorem splice_length {α : Type} (cs : List α) (o : Nat) (vs : List α) (h : o + vs.length ≤ cs.length) : (splice cs o vs).length = cs.length := by simp [splice]; omega
theorem All2.splice {α β : Type} {R : α → β → Prop} {cs vs : List α} {ds ws : List β} (h : All2 R cs ds) (k : All2 R vs ws) (o : Nat) : All2 R (splice cs o vs) (splice ds o ws) := by
  unfold AM.splice
  rw [k.length]
  exact ((h.take o).append k).append (h.drop _)
theorem fill_step (place : Nat → Option (Nat × Nat)) (cells : Array Value) (i off sz : Nat) (v : Value) (rest : List (Nat × Value)) (hp : place i = some (off, sz)) (hs : v.cells.toList.length = sz) (hin : off + sz ≤ cells.size) :
    Instr.fill place cells ((i, v) :: rest) = Instr.fill place (layA cells off v.cells.toList) rest := by
  have hs' : v.cells.size = sz := by rw [← hs]; simp
  rw [Instr.fill, hp]
  simp only [hs', ne_eq, not_true_eq_false, decide_false, Bool.false_or, gt_iff_lt]
  rw [if_neg (by simp; omega)]
  congr 1
  rw [← Array.foldl_toList, Array.toList_zipIdx]
  have := foldl_lay v.cells.toList 0 off cells
  simpa using this
section
variable {P : Program} {C : FC} {s : St E} {A : Asg} {okS : Nat → Nat → Prop} {a : Act} {w : World}
theorem fillS_ok {M : Mach E} (I : Inv C s A okS a.tmps w) {ch : Chain} (hch : ∀ q b, inChain ch q b = true → a.tmps.getD q undef = .bool b) {fs : List (Nat × TypeId)} {place : Nat → Option (Nat × Nat)}
    (hp : ∀ (i off : Nat) (ft : TypeId) (ti : TI), fs[i]? = some (off, ft) → M.tys.find ft = some ti → place i = some (off, ti.size)) :
    ∀ (parts : List (Nat × Operand)) (cs r : List (CV E)) (cells : Array Value), All2 (RepCV w okS C.okP s.ob A) cs cells.toList → fillS E M fs s ch cs parts = some r →
      ∃ out, Instr.fill place cells (parts.map fun p => (p.1, a.eval p.2)) = some out ∧ All2 (RepCV w okS C.okP s.ob A) r out.toList
  | [], cs, r, cells, hc, h => by simp [fillS] at h; subst h; exact ⟨cells, rfl, hc⟩
  | (i, x) :: parts, cs, r, cells, hc, h => by
    simp only [fillS] at h
    split at h
    · rename_i off ft hf
      split at h
      · rename_i ti v hti hv
        split at h
        · rename_i hle
          have hrep := svCells_rep (ev_rep I hch x) hv
          have hvl : (a.eval x).cells.toList.length = ti.size := by rw [← hrep.length, hle.1]
          have hlen : cs.length = cells.size := by rw [hc.length]; simp
          have hin : off + ti.size ≤ cells.size := by omega
          obtain ⟨out, h1, h2⟩ := fillS_ok I hch hp parts (splice cs off v) r (layA cells off (a.eval x).cells.toList) (by rw [layA_list _ _ _ (by omega)]; exact hc.splice hrep off) h
          refine ⟨out, ?_, h2⟩
          rw [List.map_cons, fill_step place cells i off ti.size _ _ (hp i off ft ti hf hti) hvl hin]
          exact h1
        · cases h
      · cases h
    · cases h
theorem places_run {tys : Tr TI} (hT : TysOk E P tys) : ∀ (fl : List Field) (fs : List (Nat × TypeId)), fieldsOk P tys fl fs = true →
    ∃ pl : List (Nat × Nat), fl.mapM (fun f => (P.info? f.type).map fun i => (f.offset, i.size)) = some pl ∧ ∀ (i off : Nat) (ft : TypeId) (ti : TI), fs[i]? = some (off, ft) → tys.find ft = some ti → pl[i]? = some (off, ti.size)
  | [], [], _ => ⟨[], rfl, fun i off ft ti h => by simp at h⟩
  | [], _ :: _, h => by simp [fieldsOk] at h
  | _ :: _, [], h => by simp [fieldsOk] at h
  | f :: fl, (o, t) :: fs, h => by
    have hh := h
    simp only [fieldsOk, Bool.and_eq_true, beq_iff_eq, Bool.not_eq_true', beq_eq_false_iff_ne] at h
    obtain ⟨h1, h2, h3, h4, h5⟩ := h
    obtain ⟨pl, e1, e2⟩ := places_run hT fl fs h5
    obtain ⟨i, hi⟩ := sizeT_info (P := P) (t := f.type) (by rw [h2]; exact h3)
    refine ⟨(f.offset, i.size) :: pl, by simp [hi, e1], fun j off ft ti hj hf => ?_⟩
    cases j with
    | succ j => simpa using e2 j off ft ti (by simpa using hj) hf
    | zero =>
      simp at hj
      obtain ⟨g1, g2⟩ := hj
      subst g1; subst g2
      have := (hT t ti hf).info
      obtain ⟨i', z, hi', hs, _⟩ := this
      rw [h2, hi'] at hi; cases hi
      simp [h1, hs]
theorem build_ok {M : Mach E} (hT : TysOk E P M.tys) (I : Inv C s A okS a.tmps w) {ch : Chain} (hch : ∀ q b, inChain ch q b = true → a.tmps.getD q undef = .bool b) {t : TypeId} {ti : TI} (ht : M.tys.find t = some ti)
    {fs : List (Nat × TypeId)} (hk : ti.kind = .struct fs) {parts : Array (Nat × Operand)} {cs : List (CV E)} (h : fillS E M fs s ch (ti.zero.map (cellOf E)) parts.toList = some cs) :
    ∃ vs : List Value, (Instr.build t (parts.map fun (i, x) => (i, a.eval x))).run P w = .ok (.agg vs.toArray) w ∧ All2 (RepCV w okS C.okP s.ob A) cs vs := by
  have hkk := (hT t ti ht).kind
  rw [hk] at hkk
  obtain ⟨fields, hu, hfs⟩ := kind_struct hkk
  obtain ⟨it, z, hit, _, _, hz, hzc, _⟩ := (hT t ti ht).info
  obtain ⟨pl, e1, e2⟩ := places_run hT _ _ hfs
  obtain ⟨out, h1, h2⟩ := fillS_ok (M := M) I hch (place := fun i => pl[i]?) e2 parts.toList (ti.zero.map (cellOf E)) cs z.cells (by rw [hzc]; exact map_cellOf_rep _) h
  refine ⟨out.toList, ?_, h2⟩
  refine run_build w t _ _ ?_
  simp only [Program.built, hit, hu, hz, e1]
  simpa using h1
theorem build_arr_ok {M : Mach E} (hT : TysOk E P M.tys) (I : Inv C s A okS a.tmps w) {ch : Chain} (hch : ∀ q b, inChain ch q b = true → a.tmps.getD q undef = .bool b) {t : TypeId} {ti : TI} (ht : M.tys.find t = some ti)
    {n : Nat} {e : TypeId} {size : Nat} (hk : ti.kind = .arr n e size) {parts : Array (Nat × Operand)} {cs : List (CV E)} (h : fillS E M (arrFs n e size) s ch (ti.zero.map (cellOf E)) parts.toList = some cs) :
    ∃ vs : List Value, (Instr.build t (parts.map fun (i, x) => (i, a.eval x))).run P w = .ok (.agg vs.toArray) w ∧ All2 (RepCV w okS C.okP s.ob A) cs vs := by
  have hkk := (hT t ti ht).kind
  rw [hk] at hkk
  obtain ⟨hu, hs, hz0, te, hte, hts⟩ := kind_arr hkk
  obtain ⟨it, z, hit, _, _, hz, hzc, _⟩ := (hT t ti ht).info
  have hsz := run_sizeOf_of (hT e te hte) w
  have hzv : (zeroValue t).run P w = .ok z w := by simp [zeroValue, typeInfo, hit, hz]
  obtain ⟨out, h1, h2⟩ := fillS_ok (M := M) I hch (place := fun i => some (i * te.size, te.size)) (fun i off ft ti' hf hft => by
      unfold arrFs at hf
      rw [List.getElem?_map] at hf
      cases hi : (List.range n)[i]? with
      | none => rw [hi] at hf; cases hf
      | some j =>
        rw [hi] at hf
        simp only [Option.map_some, Option.some.injEq, Prod.mk.injEq] at hf
        have hj := List.getElem?_eq_some_iff.1 hi
        obtain ⟨hj1, hj2⟩ := hj
        rw [List.getElem_range] at hj2
        subst hj2
        obtain ⟨e1, e2⟩ := hf
        subst e2
        rw [hte] at hft; injection hft with hft; subst hft
        rw [← e1, hts]) parts.toList (ti.zero.map (cellOf E)) cs z.cells (by rw [hzc]; exact map_cellOf_rep _) h
  refine ⟨out.toList, ?_, h2⟩
  have hfl : Instr.fill (fun i => some (i * te.size, te.size)) z.cells (parts.map fun (i, x) => (i, a.eval x)).toList = some out := by simpa using h1
  simp only [Instr.build, Sem.run_bind, hzv, Result.andThen_ok, run_underlying hu, hsz, hfl]
  simp
end
end Go.Proofs.AM

namespace Go.Proofs.AM
open Go Go.RowKit
variable {E : Env}
def RowF (E : Env) (w : World) (ok : Nat → Nat → Prop) (t : Ty) (xs : List (den E.Γ t)) (g : Nat → Option Value) : Prop :=
  ∃ f : Nat → List Value, ∀ i (h : i < xs.length), (f i).length = nc E t ∧ (∀ j, j < nc E t → g (i * nc E t + j) = (f i)[j]?) ∧ RepD E w ok t xs[i] (f i)
theorem lt_rows {i n j c : Nat} (hi : i < n) (hj : j < c) : i * c + j < n * c := by
  have : (i + 1) * c ≤ n * c := Nat.mul_le_mul_right c hi
  rw [Nat.succ_mul] at this; omega
theorem rows_lt {i n j c : Nat} (hi : n ≤ i) : n * c ≤ i * c + j := by
  have : n * c ≤ i * c := Nat.mul_le_mul_right c hi
  omega
section
variable {w : World} {ok : Nat → Nat → Prop} {t : Ty}
theorem RowF.nil (g : Nat → Option Value) : RowF E w ok t [] g := ⟨fun _ => [], fun i h => absurd h (Nat.not_lt_zero _)⟩
theorem RowF.congr {xs : List (den E.Γ t)} {g g' : Nat → Option Value} (h : RowF E w ok t xs g) (he : ∀ k, k < xs.length * nc E t → g' k = g k) : RowF E w ok t xs g' := by
  obtain ⟨f, hf⟩ := h
  exact ⟨f, fun i hi => ⟨(hf i hi).1, fun j hj => by rw [he _ (lt_rows hi hj)]; exact (hf i hi).2.1 j hj, (hf i hi).2.2⟩⟩
theorem RowF.imp {w' : World} {ok' : Nat → Nat → Prop} {xs : List (den E.Γ t)} {g : Nat → Option Value} (h : RowF E w ok t xs g) (hm : ∀ (x : den E.Γ t) cs, RepD E w ok t x cs → RepD E w' ok' t x cs) : RowF E w' ok' t xs g := by
  obtain ⟨f, hf⟩ := h
  exact ⟨f, fun i hi => ⟨(hf i hi).1, (hf i hi).2.1, hm _ _ (hf i hi).2.2⟩⟩
theorem RowF.append {xs ys : List (den E.Γ t)} {g h : Nat → Option Value} (hx : RowF E w ok t xs g) (hy : RowF E w ok t ys h) : RowF E w ok t (xs ++ ys) (fun k => if k < xs.length * nc E t then g k else h (k - xs.length * nc E t)) := by
  obtain ⟨f1, h1⟩ := hx
  obtain ⟨f2, h2⟩ := hy
  refine ⟨fun i => if i < xs.length then f1 i else f2 (i - xs.length), fun i hi => ?_⟩
  by_cases hlt : i < xs.length
  · simp only [hlt, if_true]
    refine ⟨(h1 i hlt).1, fun j hj => ?_, ?_⟩
    · rw [if_pos (lt_rows hlt hj)]; exact (h1 i hlt).2.1 j hj
    · rw [List.getElem_append_left hlt]; exact (h1 i hlt).2.2
  · simp only [hlt, if_false]
    have hi2 : i - xs.length < ys.length := by simp at hi; omega
    refine ⟨(h2 _ hi2).1, fun j hj => ?_, ?_⟩
    · rw [if_neg (by have := rows_lt (j := j) (c := nc E t) (Nat.le_of_not_lt hlt); omega), ← (h2 _ hi2).2.1 j hj]
      congr 1
      rw [Nat.sub_mul]
      have := Nat.mul_le_mul_right (nc E t) (Nat.le_of_not_lt hlt)
      omega
    · rw [List.getElem_append_right (Nat.le_of_not_lt hlt)]; exact (h2 _ hi2).2.2
theorem RowF.set {xs : List (den E.Γ t)} {g : Nat → Option Value} (hx : RowF E w ok t xs g) (i : Nat) {x : den E.Γ t} {c : List Value} (hc : c.length = nc E t) (hr : RepD E w ok t x c) :
    RowF E w ok t (xs.set i x) (fun k => if i * nc E t ≤ k ∧ k < i * nc E t + nc E t then c[k - i * nc E t]? else g k) := by
  obtain ⟨f, hf⟩ := hx
  refine ⟨fun m => if m = i then c else f m, fun m hm => ?_⟩
  have hm' : m < xs.length := by simpa using hm
  by_cases he : m = i
  · subst he
    simp only [if_true]
    refine ⟨hc, fun j hj => ?_, ?_⟩
    · rw [if_pos (by omega)]; congr 1; omega
    · simpa using hr
  · simp only [he, if_false]
    refine ⟨(hf m hm').1, fun j hj => ?_, ?_⟩
    · rw [if_neg, (hf m hm').2.1 j hj]
      intro ⟨h1, h2⟩
      rcases Nat.lt_or_gt_of_ne he with hl | hl
      · have := Nat.mul_le_mul_right (nc E t) hl; rw [Nat.succ_mul] at this; omega
      · have := Nat.mul_le_mul_right (nc E t) hl; rw [Nat.succ_mul] at this; omega
    · rw [List.getElem_set_ne (Ne.symm he)]; exact (hf m hm').2.2
theorem RowF.replicate (n : Nat) {x : den E.Γ t} {c : List Value} (hc : c.length = nc E t) (hr : RepD E w ok t x c) : RowF E w ok t (List.replicate n x) (fun k => c[k % nc E t]?) := by
  refine ⟨fun _ => c, fun i hi => ⟨hc, fun j hj => ?_, by simpa using hr⟩⟩
  have : (i * nc E t + j) % nc E t = j := by rw [Nat.mul_comm, Nat.mul_add_mod]; exact Nat.mod_eq_of_lt hj
  simp only [this]
theorem RowF.window {xs : List (den E.Γ t)} {g : Nat → Option Value} (hx : RowF E w ok t xs g) (lo len : Nat) (h : lo + len ≤ xs.length) : RowF E w ok t ((xs.drop lo).take len) (fun k => g (lo * nc E t + k)) := by
  obtain ⟨f, hf⟩ := hx
  refine ⟨fun i => f (lo + i), fun i hi => ?_⟩
  have hi2 : lo + i < xs.length := by simp at hi; omega
  refine ⟨(hf _ hi2).1, fun j hj => ?_, ?_⟩
  · rw [← (hf _ hi2).2.1 j hj, Nat.add_mul]
    show g (lo * nc E t + (i * nc E t + j)) = _
    rw [Nat.add_assoc]
  · have : ((xs.drop lo).take len)[i] = xs[lo + i] := by simp
    rw [this]; exact (hf _ hi2).2.2
theorem RepRow.toF {xs : List (den E.Γ t)} {off : Nat} {cs : Array Value} (h : RepRow E w ok t xs off cs) : RowF E w ok t xs (fun k => cs[off + k]?) := by
  obtain ⟨f, hf⟩ := h
  exact ⟨f, fun i hi => ⟨(hf i hi).1, fun j hj => by rw [← (hf i hi).2.1 j hj, Nat.add_assoc], (hf i hi).2.2⟩⟩
theorem RowF.toRow {xs : List (den E.Γ t)} {off : Nat} {cs : Array Value} (h : RowF E w ok t xs (fun k => cs[off + k]?)) : RepRow E w ok t xs off cs := by
  obtain ⟨f, hf⟩ := h
  exact ⟨f, fun i hi => ⟨(hf i hi).1, fun j hj => by rw [← (hf i hi).2.1 j hj, Nat.add_assoc], (hf i hi).2.2⟩⟩
theorem RowF.list {xs : List (den E.Γ t)} {g : Nat → Option Value} (h : RowF E w ok t xs g) : ∃ l : List Value, l.length = xs.length * nc E t ∧ (∀ k, k < l.length → g k = l[k]?) ∧ ∀ v ∈ l, v.oneCell' = true := by
  obtain ⟨f, hf⟩ := h
  by_cases hc : nc E t = 0
  · exact ⟨[], by simp [hc], fun k hk => absurd hk (Nat.not_lt_zero _), fun v hv => by cases hv⟩
  · have key : ∀ k, k < xs.length * nc E t → ∃ v, g k = some v ∧ v.oneCell' = true := by
      intro k hk
      have hi : k / nc E t < xs.length := Nat.div_lt_of_lt_mul (by rwa [Nat.mul_comm])
      have hj : k % nc E t < nc E t := Nat.mod_lt _ (Nat.pos_of_ne_zero hc)
      obtain ⟨h1, h2, h3⟩ := hf _ hi
      have he := h2 _ hj
      rw [Nat.mul_comm, Nat.div_add_mod] at he
      have hlt : k % nc E t < (f (k / nc E t)).length := by omega
      rw [List.getElem?_eq_getElem hlt] at he
      exact ⟨_, he, h3.one _ (List.getElem_mem hlt)⟩
    refine ⟨(List.range (xs.length * nc E t)).map fun k => (g k).getD undef, by simp, fun k hk => ?_, fun v hv => ?_⟩
    · simp at hk
      obtain ⟨v, hv, _⟩ := key k hk
      simp [hk, hv]
    · simp only [List.mem_map, List.mem_range] at hv
      obtain ⟨k, hk, e⟩ := hv
      obtain ⟨v', hv', h1⟩ := key k hk
      rw [← e, hv']; exact h1
end
theorem RepD.rows {w : World} {ok : Nat → Nat → Prop} {t : Ty} {xs : List (den E.Γ t)} {v : Value} (h : RepD E w ok (.slice t) xs [v]) :
    (∃ p, v = .slice p 0 0 ∧ xs = []) ∨ ∃ (b off cap : Nat), v = .slice (some ⟨b, off, none⟩) xs.length cap ∧ (∀ k, k < xs.length * nc E t → ok b (off + k)) ∧ xs.length ≤ cap ∧ RowF E w ok t xs (fun k => w.cell? ⟨b, off + k, none⟩) := by
  rcases RepD.slice_inv h with ⟨p, hv, hx⟩ | ⟨b, off, cap, f, hv, hb, hc, hl, hcell, hrep⟩
  · simp at hv; exact .inl ⟨p, hv, hx⟩
  · simp at hv
    refine .inr ⟨b, off, cap, hv, hb, hc, f, fun i hi => ⟨(hcell i hi).1, fun j hj => ?_, hrep i hi⟩⟩
    rw [← (hcell i hi).2 j hj, Nat.add_assoc]
theorem RowF.data {w : World} {ok : Nat → Nat → Prop} {t : Ty} {xs : List (den E.Γ t)} {b off cap : Nat} (hb : ∀ k, k < xs.length * nc E t → ok b (off + k)) (hl : b < w.heap.size) (hc : xs.length ≤ cap) (h : RowF E w ok t xs (fun k => w.cell? ⟨b, off + k, none⟩)) :
    RepD E w ok (.slice t) xs [.slice (some ⟨b, off, none⟩) xs.length cap] := by
  obtain ⟨f, hf⟩ := h
  refine .slice b off cap xs f hb hc hl (fun i hi => ⟨(hf i hi).1, fun j hj => ?_⟩) fun i hi => (hf i hi).2.2
  rw [← (hf i hi).2.1 j hj, Nat.add_assoc]
end Go.Proofs.AM
