/- This text states the D-machine (a machine on data over the model's code), its relation to the model's worlds, and its steps. No condition. -/
import Derived.WalkKit
import Derived.Orders
namespace Go.DM

inductive Tr (α : Type) where
  | nil
  | node (l : Tr α) (v : Option α) (r : Tr α)

namespace Tr
variable {α : Type}

def get : Tr α → Nat → Option α
  | .nil, _ => none
  | .node l v r, n => if n = 0 then v else if n % 2 = 1 then l.get (n / 2) else r.get (n / 2 - 1)

def root : Tr α → Option α
  | .nil => none
  | .node _ v _ => v
def left : Tr α → Tr α
  | .nil => .nil
  | .node l _ _ => l
def right : Tr α → Tr α
  | .nil => .nil
  | .node _ _ r => r

theorem get_eq (t : Tr α) (n : Nat) : t.get n = if n = 0 then t.root else if n % 2 = 1 then t.left.get (n / 2) else t.right.get (n / 2 - 1) := by
  cases t with
  | nil => simp [get, root, left, right]
  | node l v r => rw [get]; rfl

def setF : Nat → Tr α → Nat → Option α → Tr α
  | 0, t, _, _ => t
  | f + 1, t, n, x => if n = 0 then .node t.left x t.right else if n % 2 = 1 then .node (setF f t.left (n / 2) x) t.root t.right else .node t.left t.root (setF f t.right (n / 2 - 1) x)

/-- how many steps the number takes -/
def dep (n : Nat) : Nat := n.log2 + 2

def set (t : Tr α) (n : Nat) (x : α) : Tr α := setF (n + 1) t n (some x)
def del (t : Tr α) (n : Nat) : Tr α := setF (n + 1) t n none

theorem get_setF_same : ∀ (f : Nat) (t : Tr α) (n : Nat) (x : Option α), n < f → (setF f t n x).get n = x
  | 0, _, _, _, h => absurd h (Nat.not_lt_zero _)
  | f + 1, t, n, x, h => by
    rw [setF]
    by_cases h0 : n = 0
    · rw [if_pos h0, get, if_pos h0]
    · rw [if_neg h0]
      by_cases h1 : n % 2 = 1
      · rw [if_pos h1, get, if_neg h0, if_pos h1]
        exact get_setF_same f _ _ _ (by omega)
      · rw [if_neg h1, get, if_neg h0, if_neg h1]
        exact get_setF_same f _ _ _ (by omega)

theorem get_setF_ne : ∀ (f : Nat) (t : Tr α) (n m : Nat) (x : Option α), n < f → m ≠ n → (setF f t n x).get m = t.get m
  | 0, _, _, _, _, h, _ => absurd h (Nat.not_lt_zero _)
  | f + 1, t, n, m, x, h, hne => by
    rw [setF, get_eq t m]
    by_cases h0 : n = 0
    · rw [if_pos h0, get]
      have : m ≠ 0 := by omega
      rw [if_neg this, if_neg this]
    · rw [if_neg h0]
      by_cases h1 : n % 2 = 1
      · rw [if_pos h1, get]
        by_cases hm : m = 0
        · rw [if_pos hm, if_pos hm]
        · rw [if_neg hm, if_neg hm]
          by_cases hm1 : m % 2 = 1
          · rw [if_pos hm1, if_pos hm1]
            exact get_setF_ne f _ _ _ _ (by omega) (by omega)
          · rw [if_neg hm1, if_neg hm1]
      · rw [if_neg h1, get]
        by_cases hm : m = 0
        · rw [if_pos hm, if_pos hm]
        · rw [if_neg hm, if_neg hm]
          by_cases hm1 : m % 2 = 1
          · rw [if_pos hm1, if_pos hm1]
          · rw [if_neg hm1, if_neg hm1]
            exact get_setF_ne f _ _ _ _ (by omega) (by omega)

theorem get_set (t : Tr α) (n m : Nat) (x : α) : (t.set n x).get m = if m = n then some x else t.get m := by
  unfold set
  split
  · rename_i h; subst h; exact get_setF_same _ _ _ _ (by omega)
  · rename_i h; exact get_setF_ne _ _ _ _ _ (by omega) h
theorem get_del (t : Tr α) (n m : Nat) : (t.del n).get m = if m = n then none else t.get m := by
  unfold del
  split
  · rename_i h; subst h; exact get_setF_same _ _ _ _ (by omega)
  · rename_i h; exact get_setF_ne _ _ _ _ _ (by omega) h
@[simp] theorem get_nil (n : Nat) : (Tr.nil : Tr α).get n = none := rfl
end Tr
end Go.DM
namespace Go.DM
open Go

/-- what may be appended to a slice: nothing known of its room (no) - its capacity is its length (ex) - it owns the room behind it (gr) -/
inductive Ap where
  | no
  | ex
  | gr (id : Nat)
  deriving DecidableEq

/-- data: a scalar - a place in a block of the machine's own - a place in cells that do not change - a slice of cells that do not change (element's type, cells) - a slice over a block (element's size) - a map - a function - an interface value - a struct or array - a tuple - new bytes whose content is open -/
inductive A where
  | v (x : Value)
  | ptr (b o : Nat)
  | sp (cs : List A) (o : Nat) (ap : Ap)
  | sl (sz : Nat) (cs : List A) (ap : Ap)
  | ms (b o len cap : Nat)
  | mp (b : Nat)
  | fn (f : Fn) (first cap : List A)
  | ifc (t : TypeId) (x : A)
  | agg (cs : List A)
  | tup (vs : List A)
  | raw (id len : Nat)
  | junk

/-- a value without an address that is no struct, tuple, interface or function value -/
def scal : Value → Bool
  | .bool _ | .int .. | .float .. | .complex .. | .string _ | .pointer none | .slice none 0 0 | .map none | .chan none | .nilFunc | .nilIface => true
  | _ => false

mutual
def toVal : A → Option Value
  | .v x => some x
  | .ifc t x => match toVal x with
    | some u => some (.iface t u)
    | none => none
  | .agg cs => match toVals cs with
    | some us => some (.agg us.toArray)
    | none => none
  | .tup cs => match toVals cs with
    | some us => some (.tuple us.toArray)
    | none => none
  | .fn f [] [] => some (.func f #[] #[])
  | _ => none
def toVals : List A → Option (List Value)
  | [] => some []
  | a :: r => match toVal a with
    | some u => match toVals r with
      | some us => some (u :: us)
      | none => none
    | none => none
end

/-- a value without addresses as data (structs of scalars; interface values of scalars or structs) -/
def ofScal (x : Value) : Option A := if scal x then some (.v x) else none
def ofScals : List Value → Option (List A)
  | [] => some []
  | x :: r => match ofScal x with
    | some a => match ofScals r with
      | some as => some (a :: as)
      | none => none
    | none => none
def ofVal1 : Value → Option A
  | .agg cs => match ofScals cs.toList with
    | some as => some (.agg as)
    | none => none
  | .func f first cap => if first.size = 0 ∧ cap.size = 0 then some (.fn f [] []) else none
  | x => ofScal x
def ofVal2 : Value → Option A
  | .iface t x => match ofVal1 x with
    | some a => some (.ifc t a)
    | none => none
  | x => ofVal1 x
def ofVal2s : List Value → Option (List A)
  | [] => some []
  | x :: r => match ofVal2 x with
    | some a => match ofVal2s r with
      | some as => some (a :: as)
      | none => none
    | none => none
def ofVal : Value → Option A
  | .tuple vs => match ofVal2s vs.toList with
    | some as => some (.tup as)
    | none => none
  | x => ofVal2 x

/-- a block of the machine's own -/
inductive Blk where
  | cells (cs : List A) (e : TypeId)
  | siter (s : ByteArray) (pos : Nat)
  | map (es : List (Value × A × Nat)) (clock : Nat)
  | miter (m since : Nat) (seen : List Nat) (clock : Nat)

structure St where
  blks : Tr Blk
  next : Nat
  toks : Tr TypeId
  nextT : Nat

/-- the results of an operation that asks nothing of the world -/
def det {α : Type} (P : Program) : Sem α → Option α
  | .pure a => some a
  | .program k => det P (k P)
  | .mark _ k => det P k
  | _ => none

/-- a frame: the slots, the deferred calls -/
structure Fr where
  s : Tr A
  ds : List (FuncId × List A)
def und : A := .tup []
def Fr.at (φ : Fr) (t : Nat) : A := (φ.s.get t).getD und
def Fr.set (φ : Fr) (t : Nat) (x : A) : Fr := { φ with s := φ.s.set t x }

/-- scalars that are one -/
def scalEq : Value → Value → Bool
  | .bool a, .bool b => a == b
  | .int j a, .int k b => j == k && a == b
  | .float j a, .float k b => j == k && a == b
  | .complex j a b, .complex k c d => j == k && a == c && b == d
  | .string a, .string b => a.data.toList == b.data.toList
  | .pointer none, .pointer none => true
  | .slice none 0 0, .slice none 0 0 => true
  | .map none, .map none => true
  | .chan none, .chan none => true
  | .nilFunc, .nilFunc => true
  | .nilIface, .nilIface => true
  | _, _ => false
mutual
def A.beq : A → A → Bool
  | .v x, .v y => scalEq x y
  | .ptr b o, .ptr b' o' => b == b' && o == o'
  | .sp cs o ap, .sp cs' o' ap' => o == o' && ap == ap' && beqs cs cs'
  | .sl z cs ap, .sl z' cs' ap' => z == z' && ap == ap' && beqs cs cs'
  | .ms b o l c, .ms b' o' l' c' => b == b' && o == o' && l == l' && c == c'
  | .mp b, .mp b' => b == b'
  | .ifc t x, .ifc t' x' => t == t' && A.beq x x'
  | .agg cs, .agg cs' => beqs cs cs'
  | .tup cs, .tup cs' => beqs cs cs'
  | _, _ => false
def beqs : List A → List A → Bool
  | [], [] => true
  | x :: r, y :: s => A.beq x y && beqs r s
  | _, _ => false
end

structure Cfg where
  P : Program
  glob : Nat → Option A
  prim : FuncId → Option (List A → St → Option (A × St))
  /-- slices of these types that append begins are blocks -/
  mutB : TypeId → Bool := fun _ => false

def ev (C : Cfg) (φ : Fr) : Operand → Option A
  | .tmp t => φ.s.get t
  | .const v => ofVal v
  | .global g => C.glob g
  | .func f => some (.fn (.func f) [] [])

def evs (C : Cfg) (φ : Fr) : List Operand → Option (List A)
  | [] => some []
  | x :: r => match ev C φ x with
    | some a => match evs C φ r with
      | some as => some (a :: as)
      | none => none
    | none => none

inductive R where
  | val (x : A) (σ : St)
  | skip (σ : St)
  | call (f : FuncId) (args : List A) (σ : St)
  | pan (x : A) (σ : St)
  | dfr (f : FuncId) (args : List A) (σ : St)
  | rcv (σ : St)

def St.cells (σ : St) (b : Nat) : Option (List A × TypeId) := match σ.blks.get b with
  | some (.cells cs e) => some (cs, e)
  | _ => none
def St.push (σ : St) (b : Blk) : St := { σ with blks := σ.blks.set σ.next b, next := σ.next + 1 }
def St.put (σ : St) (b : Nat) (x : Blk) : St := { σ with blks := σ.blks.set b x }
def St.kill (σ : St) (b : Nat) : St := { σ with blks := σ.blks.del b }
def St.tok (σ : St) (e : TypeId) : St := { σ with toks := σ.toks.set σ.nextT e, nextT := σ.nextT + 1 }
def St.untok (σ : St) (id : Nat) : St := { σ with toks := σ.toks.del id }
def St.live (σ : St) (id : Nat) : Option TypeId := σ.toks.get id

/-- the cells of a piece of data -/
def A.cells : A → List A
  | .agg cs => cs
  | x => [x]
def isOne : A → Bool
  | .agg _ | .tup _ | .junk => false
  | _ => true
def allOne (cs : List A) : Bool := cs.all isOne

def isAggT (P : Program) (t : TypeId) : Option Bool := match P.underlying t with
  | some (.struct _) | some (.array _ _) => some true
  | some _ => some false
  | none => none

/-- a variable of type t that begins at cell o -/
def loadAt (P : Program) (t : TypeId) (cs : List A) (o : Nat) : Option A := match isAggT P t, P.info? t with
  | some true, some i => if o + i.size ≤ cs.length then some (.agg ((cs.drop o).take i.size)) else none
  | some false, some _ => cs[o]?
  | _, _ => none

def splice (cs : List A) (o : Nat) (xs : List A) : List A := cs.take o ++ xs ++ cs.drop (o + xs.length)

def zeroOf (P : Program) (t : TypeId) : Option (List A) := match P.info? t with
  | some i => match i.zero with
    | some z => match ofVal1 z with
      | some a => some a.cells
      | none => none
    | none => none
  | none => none

/-- the zero value of a type -/
def zeroA (P : Program) (t : TypeId) : Option A := match P.info? t with
  | some i => match i.zero with
    | some z => ofVal1 z
    | none => none
  | none => none

def sizeOfT (P : Program) (t : TypeId) : Option Nat := (P.info? t).map (·.size)

def rep (n : Nat) (z : List A) : List A := match n with
  | 0 => []
  | n + 1 => z ++ rep n z

/-- parts laid into cells -/
def lay (place : Nat → Option (Nat × Nat)) (cs : List A) : List (Nat × A) → Option (List A)
  | [] => some cs
  | (i, x) :: r => match place i with
    | none => none
    | some (off, size) =>
      if x.cells.length = size ∧ off + size ≤ cs.length then lay place (splice cs off x.cells) r else none

def places (P : Program) (fs : List Field) : Option (List (Nat × Nat)) := match fs with
  | [] => some []
  | f :: r => match sizeOfT P f.type, places P r with
    | some n, some l => some ((f.offset, n) :: l)
    | _, _ => none

def evParts (C : Cfg) (φ : Fr) : List (Nat × Operand) → Option (List (Nat × A))
  | [] => some []
  | (i, x) :: r => match ev C φ x, evParts C φ r with
    | some a, some as => some ((i, a) :: as)
    | _, _ => none

def bytesOf (s : ByteArray) : List A := s.data.toList.map fun b => .v (.int .u8 b.toNat)
def toBytes : List A → Option (List UInt8)
  | [] => some []
  | .v (.int .u8 n) :: r => match toBytes r with
    | some bs => some (UInt8.ofNat n.toNat :: bs)
    | none => none
  | _ :: _ => none

/-- the new cells of an append, and how many elements they are -/
def appended (σ : St) (sz : Nat) : A → Option (List A)
  | .v (.slice none 0 0) => some []
  | .v (.string s) => if sz = 1 then some (bytesOf s) else none
  | .sl sz' cs _ => if sz' = sz then some cs else none
  | .ms b o len _ => match σ.cells b with
    | some (cs, _) => if o + len * sz ≤ cs.length then some ((cs.drop o).take (len * sz)) else none
    | none => none
  | _ => none

def optO (C : Cfg) (φ : Fr) : Option Operand → Option (Option A)
  | none => some none
  | some x => match ev C φ x with
    | some a => some (some a)
    | none => none

def asNat : A → Option Nat
  | .v (.int _ n) => if 0 ≤ n then some n.toNat else none
  | _ => none

/-- the room of a slice of which it is not known -/
def capX : Nat := 9223372036854775808
/-- the type of a block whose end is not known: this, and the type -/
def offX : Nat := 1099511627776
/-- the bounds of a slice expression over n elements -/
def bounds (n : Nat) (lo hi : Option A) : Option (Nat × Nat) :=
  match (match hi with | none => some n | some x => asNat x) with
  | none => none
  | some h => if h ≤ n then
      match (match lo with | none => some 0 | some x => asNat x) with
      | none => none
      | some l => if l ≤ h then some (l, h) else none
    else none

def sliceOp (P : Program) (t : TypeId) (x : A) (lo hi : Option A) (σ : St) : Option (A × St) :=
  match P.underlying t, x with
  | some (.slice e), .sl sz cs ap =>
    if sizeOfT P e = some sz ∧ 0 < sz then
      match bounds (cs.length / sz) lo hi with
      | some (l, h) => some (.sl sz ((cs.drop (l * sz)).take ((h - l) * sz)) (if h = cs.length / sz then ap else .no), σ)
      | none => none
    else none
  | some (.slice e), .ms b o len cap =>
    match sizeOfT P e, bounds len lo hi with
    | some sz, some (l, h) =>
      if capX ≤ cap then (if 0 < sz ∧ cap = capX + sz ∧ l < len then some (.ms b (o + l * sz) (h - l) cap, σ) else none)
      else if 0 < sz ∧ l = 0 ∧ h = 0 ∧ o = 0 then match σ.cells b with
        | some (cs, e') => if e' = e ∧ e < offX ∧ cs.length = cap * sz then some (.sl sz [] (.gr σ.nextT), (σ.kill b).tok e) else none
        | none => none
      else if 0 < sz ∧ l < cap then some (.ms b (o + l * sz) (h - l) (cap - l), σ) else none
    | _, _ => none
  | some (.slice e), .raw id len =>
    match sizeOfT P e, bounds len lo hi with
    | some 1, some (0, 0) => some (.sl 1 [] (.gr id), σ)
    | _, _ => none
  | some (.array n e), .ptr b o =>
    match sizeOfT P e, bounds n lo hi with
    | some sz, some (l, h) => if 0 < sz ∧ n < capX ∧ l < n then some (.ms b (o + l * sz) (h - l) (n - l), σ) else none
    | _, _ => none
  | _, _ => none

def isSl : A → Bool
  | .v (.slice none 0 0) | .sl .. | .ms .. => true
  | _ => false
def appendOp (P : Program) (t : TypeId) (s x : A) (σ : St) : Option (A × St) :=
  match P.underlying t with
  | some (.slice e) => match P.info? e with
    | some i => match appended σ i.size x with
      | some new =>
        if 0 < i.size then
          if new = [] then (if isSl s then some (s, σ) else none) else
          if allOne new ∧ i.zero.isSome ∧ (i.zero.map (·.cells.size)) = some i.size ∧ 0 < i.bytes then
            match s with
            | .v (.slice none 0 0) =>
              if (2 * (new.length / i.size) + 1024) * i.bytes ≤ 281474976710656 then some (.sl i.size new (.gr σ.nextT), σ.tok e) else none
            | .sl sz cs ap =>
              if sz = i.size ∧ (2 * ((cs.length + new.length) / i.size) + 1024) * i.bytes ≤ 281474976710656 then
                match ap with
                | .ex => some (.sl i.size (cs ++ new) (.gr σ.nextT), σ.tok e)
                | .gr id => if σ.live id = some e then some (.sl i.size (cs ++ new) (.gr σ.nextT), (σ.untok id).tok e) else none
                | .no => none
              else none
            | .ms b o len cap => match σ.cells b with
              | some (cs, _) =>
                if len = cap ∧ cap < capX ∧ o + len * i.size ≤ cs.length ∧ (2 * (len + new.length / i.size) + 1024) * i.bytes ≤ 281474976710656 then
                  some (.sl i.size ((cs.drop o).take (len * i.size) ++ new) (.gr σ.nextT), σ.tok e)
                else none
              | none => none
            | _ => none
          else none
        else none
      | none => none
    | none => none
  | _ => none
/-- append of noughts (to none): room alone -/
def appendZ (P : Program) (t : TypeId) (s x : A) (σ : St) : Option (A × St) :=
  match s, asNat x, P.underlying t with
  | .v (.slice none 0 0), some n, some (.slice e) => match P.info? e with
    | some i => if i.size = 1 ∧ 0 < n ∧ n < 9223372036854775808 ∧ i.zero.isSome ∧ (i.zero.map (·.cells.size)) = some i.size ∧ 0 < i.bytes ∧ (2 * n + 1024) * i.bytes ≤ 140737488355328 then some (.raw σ.nextT n, σ.tok e) else none
    | none => none
  | _, _, _ => none
/-- append to a slice that is a block: to none, or at the end of what is known of the block (the block is given up) -/
def appendM (P : Program) (t : TypeId) (s x : A) (σ : St) : Option (A × St) :=
  match P.underlying t with
  | some (.slice e) => match P.info? e with
    | some i => match appended σ i.size x with
      | some new =>
        if 0 < i.size then
          if new = [] then (if isSl s then some (s, σ) else none) else
          if allOne new ∧ i.zero.isSome ∧ (i.zero.map (·.cells.size)) = some i.size ∧ 0 < i.bytes then
            match s with
            | .v (.slice none 0 0) =>
              if (2 * (new.length / i.size) + 1024) * i.bytes ≤ 281474976710656 then some (.ms σ.next 0 (new.length / i.size) (capX + i.size), σ.push (.cells new (offX + e))) else none
            | .sl sz [] .ex =>
              if sz = i.size ∧ (2 * (new.length / i.size) + 1024) * i.bytes ≤ 281474976710656 then some (.ms σ.next 0 (new.length / i.size) (capX + i.size), σ.push (.cells new (offX + e))) else none
            | .ms b 0 len cap => match σ.cells b with
              | some (cs, e') =>
                if cap = capX + i.size ∧ e' = offX + e ∧ len * i.size ≤ cs.length ∧ (2 * (len + new.length / i.size) + 1024) * i.bytes ≤ 281474976710656 then
                  some (.ms σ.next 0 (len + new.length / i.size) (capX + i.size), (σ.kill b).push (.cells (cs.take (len * i.size) ++ new) (offX + e)))
                else if len = cap ∧ cap < capX ∧ len * i.size ≤ cs.length ∧ (2 * (len + new.length / i.size) + 1024) * i.bytes ≤ 281474976710656 then
                  some (.ms σ.next 0 (len + new.length / i.size) (capX + i.size), σ.push (.cells (cs.take (len * i.size) ++ new) (offX + e)))
                else none
              | none => none
            | _ => appendOp P t s x σ
          else none
        else none
      | none => none
    | none => none
  | _ => none

end Go.DM
namespace Go.DM
open Go

/-- '==' where one side bears an address -/
def eqA (P : Program) (t : TypeId) (x y : A) : Option Bool :=
  match P.underlying t, x, y with
  | some (.slice _), .sl .., .v (.slice none 0 0) => some false
  | some (.slice _), .v (.slice none 0 0), .sl .. => some false
  | some (.slice _), .ms .., .v (.slice none 0 0) => some false
  | some (.pointer _), .ptr .., .v (.pointer none) => some false
  | some (.pointer _), .v (.pointer none), .ptr .. => some false
  | some (.pointer e), .ptr b o, .ptr b' o' => if b = b' then match sizeOfT P e with
      | some n => if n = 0 then none else some (o == o')
      | none => none
    else none
  | some (.map _ _), .mp _, .v (.map none) => some false
  | some (.map _ _), .v (.map none), .mp _ => some false
  | some (.func _ _ _), .fn .., .v .nilFunc => some false
  | some (.interface _), .ifc _ _, .v .nilIface => some false
  | some (.interface _), .v .nilIface, .ifc _ _ => some false
  | _, _, _ => none

def fieldOp (P : Program) (s : TypeId) (x : A) (f : Nat) : Option A :=
  match P.underlying s with
  | some (.struct fs) => match fs[f]? with
    | some fd => match sizeOfT P fd.type with
      | some n => if n = 0 then none else match x with
        | .ptr b o => some (.ptr b (o + fd.offset))
        | .sp cs o _ap => some (.sp cs (o + fd.offset) .no)
        | _ => none
      | none => none
    | none => none
  | _ => none

def indexAddrOp (P : Program) (t : TypeId) (x i : A) : Option A :=
  match i, P.underlying t with
  | .v (.int _ n), some (.slice e) => match sizeOfT P e with
    | some sz => match x with
      | .sl sz' cs _ => if sz' = sz ∧ 0 < sz ∧ 0 ≤ n ∧ n < (cs.length / sz : Nat) then some (.sp cs (n.toNat * sz) .no) else none
      | .ms b o len _ => if 0 ≤ n ∧ n < (len : Nat) then some (.ptr b (o + n.toNat * sz)) else none
      | _ => none
    | none => none
  | .v (.int _ n), some (.array len e) => match sizeOfT P e with
    | some sz => if 0 ≤ n ∧ n < (len : Nat) then match x with
        | .ptr b o => some (.ptr b (o + n.toNat * sz))
        | .sp cs o _ => some (.sp cs (o + n.toNat * sz) .no)
        | _ => none
      else none
    | none => none
  | _, _ => none

def partA (P : Program) (t : TypeId) (cs : List A) (off : Nat) : Option A :=
  match isAggT P t, P.info? t with
  | some true, some i => if off + i.size ≤ cs.length then some (.agg ((cs.drop off).take i.size)) else none
  | some false, _ => cs[off]?
  | _, _ => none

def fieldVal (P : Program) (t : TypeId) (x : A) (f : Nat) : Option A :=
  match P.underlying t, x with
  | some (.struct fs), .agg cs => match fs[f]? with
    | some fd => partA P fd.type cs fd.offset
    | none => none
  | _, _ => none

def indexVal (P : Program) (t : TypeId) (x i : A) : Option A :=
  match i, P.underlying t, x with
  | .v (.int _ n), some (.array len e), .agg cs => match sizeOfT P e with
    | some sz => if 0 ≤ n ∧ n < (len : Nat) then partA P e cs (n.toNat * sz) else none
    | none => none
  | _, _, _ => none

def loadOp (P : Program) (t : TypeId) (x : A) (σ : St) : Option A :=
  match x with
  | .ptr b o => match σ.cells b with
    | some (cs, _) => loadAt P t cs o
    | none => none
  | .sp cs o _ => loadAt P t cs o
  | _ => none

def storeOp (P : Program) (t : TypeId) (a x : A) (σ : St) : Option St :=
  match a with
  | .ptr b o => match σ.cells b, sizeOfT P t with
    | some (cs, e), some n => if x.cells.length = n ∧ allOne x.cells ∧ o + n ≤ cs.length then some (σ.put b (.cells (splice cs o x.cells) e)) else none
    | _, _ => none
  | _ => none

def buildOp (P : Program) (t : TypeId) (parts : List (Nat × A)) : Option A :=
  match P.underlying t, zeroOf P t with
  | some (.struct fs), some z => match places P fs.toList with
    | some ps => match lay (ps[·]?) z parts with
      | some cs => some (.agg cs)
      | none => none
    | none => none
  | some (.array _ e), some z => match sizeOfT P e with
    | some sz => match lay (fun i => some (i * sz, sz)) z parts with
      | some cs => some (.agg cs)
      | none => none
    | none => none
  | _, _ => none

def buildSliceOp (P : Program) (t : TypeId) (len : Nat) (parts : List (Nat × A)) : Option A :=
  match P.underlying t with
  | some (.slice e) => match sizeOfT P e with
    | some sz => if 0 < sz ∧ len * sz ≤ 16777216 then
        match (if len = 0 then some [] else zeroOf P e) with
        | some z => if len = 0 ∨ z.length = sz then match lay (fun i => some (i * sz, sz)) (rep len z) parts with
            | some cs => some (.sl sz cs .ex)
            | none => none
          else none
        | none => none
      else none
    | none => none
  | _ => none

/-- a literal slice as a block -/
def buildSliceM (P : Program) (t : TypeId) (len : Nat) (parts : List (Nat × A)) (σ : St) : Option (A × St) :=
  match P.underlying t with
  | some (.slice e) => match buildSliceOp P t len parts with
    | some (.sl sz cs ap) => if len = 0 then some (.sl sz cs ap, σ) else if len < capX then some (.ms σ.next 0 len len, σ.push (.cells cs e)) else none
    | _ => none
  | _ => none
def makeSliceOp (P : Program) (t : TypeId) (l c : A) (σ : St) : Option (A × St) :=
  match P.underlying t, asNat l, asNat c with
  | some (.slice e), some l, some c => match P.info? e with
    | some i => if l ≤ c ∧ i.bytes * c ≤ 140737488355328 ∧ c < 9223372036854775808 ∧ 0 < i.size then
        if l = 0 then match i.zero with
          | some _ => some (.sl i.size [] (.gr σ.nextT), σ.tok e)
          | none => none
        else match zeroOf P e with
        | some z => if z.length = i.size then some (.ms σ.next 0 l c, σ.push (.cells (rep c z) e)) else none
        | none => none
      else none
    | none => none
  | _, _, _ => none

def typeAssertOp (P : Program) (x : A) (asserted : TypeId) (commaOk : Bool) : Option A :=
  let holds (y : A) : Option A := some (if commaOk then .tup [y, .v (.bool true)] else y)
  let fails : Option A := if commaOk then match zeroA P asserted with
    | some z => some (.tup [z, .v (.bool false)])
    | none => none
    else none
  match P.underlying asserted, x with
  | some (.interface _), .v .nilIface => fails
  | some (.interface want), .ifc t _ => match P.info? t with
    | some i => match Instr.missingMethod want i.methods with
      | none => holds x
      | some _ => fails
    | none => none
  | some _, .v .nilIface => fails
  | some _, .ifc t y => if t = asserted then holds y else fails
  | _, _ => none

def convertOp (P : Program) (src dst : TypeId) (x : A) (σ : St) : Option (A × St) :=
  match P.underlying src, P.underlying dst, x with
  | some .string, some (.slice e), .v (.string s) => match P.underlying e, P.info? e with
    | some (.int .u8), some i => if i.size = 1 then some (.sl 1 (bytesOf s) .no, σ) else none
    | _, _ => none
  | some (.slice _e), some (.slice e'), .sl 1 _cs .ex => match P.underlying e' with
    | some (.int .u8) => if src = dst then some (x, σ) else none
    | _ => none
  | some (.slice e), some .string, .sl 1 cs _ => match P.underlying e, toBytes cs with
    | some (.int .u8), some bs => some (.v (.string ⟨bs.toArray⟩), σ)
    | _, _ => none
  | some (.slice e), some .string, .ms b o len _ => match P.underlying e, σ.cells b with
    | some (.int .u8), some (cs, _) => if o + len ≤ cs.length then match toBytes ((cs.drop o).take len) with
        | some bs => some (.v (.string ⟨bs.toArray⟩), σ)
        | none => none
      else none
    | _, _ => none
  | some (.pointer t), some .unsafePointer, .ptr b o => match sizeOfT P t, σ.cells b with
    | some n, some (cs, _) => if 0 < n ∧ o < cs.length then some (x, σ) else none
    | _, _ => none
  | some .unsafePointer, some (.pointer u), .ptr b o => match sizeOfT P u, σ.cells b with
    | some n, some (cs, e) => if 0 < n ∧ e < offX ∧ liesAt P P.depth e (cs.length / P.cellsOf e) o u 1 then some (x, σ) else none
    | _, _ => none
  | _, _, _ => none

/-- copy into a block -/
def copyOp (P : Program) (t : TypeId) (d s : A) (σ : St) : Option (A × St) :=
  match P.underlying t with
  | some (.slice e) => match P.info? e with
    | some i => if 0 < i.size then match appended σ i.size s with
      | some new => match d with
        | .ms b o len _ => match σ.cells b with
          | some (cs, e') =>
            let n := min (new.length / i.size) len
            if allOne new ∧ o + len * i.size ≤ cs.length then some (.v (.int .i64 (n : Nat)), σ.put b (.cells (splice cs o (new.take (n * i.size))) e')) else none
          | none => none
        | .v (.slice none 0 0) => some (.v (.int .i64 0), σ)
        | .sl _ _ _ => if new = [] then some (.v (.int .i64 0), σ) else none
        | _ => none
      | none => none
      else none
    | none => none
  | _ => none

def lenA (P : Program) (t : TypeId) (x : A) (σ : St) : Option Nat :=
  match P.underlying t, x with
  | some (.slice _), .sl sz cs _ => some (cs.length / sz)
  | some (.slice _), .ms _ _ len _ => some len
  | some (.map _ _), .mp b => match σ.blks.get b with
    | some (.map es _) => some es.length
    | _ => none
  | some (.array n _), _ => some n
  | _, _ => none

/-- the first cell of a slice -/
def sliceDataOp (x : A) : Option A := match x with
  | .sl _ cs ap => if 0 < cs.length then some (.sp cs 0 ap) else none
  | _ => none
/-- the cells of a string, read as bytes -/
def unsafeStringOp (P : Program) (pt : TypeId) (x n : A) (σ : St) : Option A :=
  match x, asNat n, P.underlying pt with
  | .sp cs 0 (.gr id), some n, some (.pointer e) => match P.underlying e, P.info? e, σ.live id with
    | some (.int .u8), some i, some e' => if i.size = 1 ∧ e' = e ∧ 0 < n ∧ n ≤ cs.length ∧ n ≤ 9223372036854775807 then match toBytes (cs.take n) with
        | some bs => some (.v (.string ⟨bs.toArray⟩))
        | none => none
      else none
    | _, _, _ => none
  | _, _, _ => none

/-- a key found: none: not to be told -/
def sameKey : TypeDesc → Value → Value → Option Bool
  | .int _, .int k a, .int k' b => if k = k' then some (a == b) else none
  | .string, .string a, .string b => some (a == b)
  | .bool, .bool a, .bool b => some (a == b)
  | _, _, _ => none
def findA (d : TypeDesc) (k : Value) : List (Value × A × Nat) → Nat → Option (Option (Nat × A × Nat))
  | [], _ => some none
  | (k', x, born) :: r, i => match sameKey d k k' with
    | some true => some (some (i, x, born))
    | some false => findA d k r (i + 1)
    | none => none
def keyDesc (P : Program) (t : TypeId) : Option (TypeDesc × TypeId) := match P.underlying t with
  | some (.map k e) => match P.underlying k with
    | some (.int i) => some (.int i, e)
    | some .string => some (.string, e)
    | some .bool => some (.bool, e)
    | _ => none
  | _ => none
def keyFits (d : TypeDesc) (k : Value) : Bool := sameKey d k k == some true

def lookupOp (P : Program) (t : TypeId) (m k : A) (ok : Bool) (σ : St) : Option A :=
  match keyDesc P t, k with
  | some (d, e), .v kv => if keyFits d kv then
      match (match m with
        | .v (.map none) => some []
        | .mp b => match σ.blks.get b with
          | some (.map es _) => some es
          | _ => none
        | _ => none) with
      | some es => match findA d kv es 0 with
        | some (some (_, x, _)) => some (if ok then .tup [x, .v (.bool true)] else x)
        | some none => match zeroA P e with
          | some z => some (if ok then .tup [z, .v (.bool false)] else z)
          | none => none
        | none => none
      | none => none
    else none
  | _, _ => none

def setVal (es : List (Value × A × Nat)) (i : Nat) (k : Value) (x : A) : List (Value × A × Nat) := match es[i]? with
  | some (_, _, born) => es.set i (k, x, born)
  | none => es
def updateOp (P : Program) (t : TypeId) (m k x : A) (σ : St) : Option St :=
  match keyDesc P t, m, k with
  | some (d, _), .mp b, .v kv => if keyFits d kv then match σ.blks.get b with
      | some (.map es clock) => match findA d kv es 0 with
        | some (some (i, _, _)) => some (σ.put b (.map (setVal es i kv x) clock))
        | some none => some (σ.put b (.map (es ++ [(kv, x, clock)]) (clock + 1)))
        | none => none
      | _ => none
    else none
  | _, _, _ => none
def entryOp (P : Program) (t : TypeId) (m k : A) (σ : St) : Option (A × St) :=
  match keyDesc P t, m, k with
  | some (d, e), .mp b, .v kv => if keyFits d kv then match σ.blks.get b with
      | some (.map es clock) => match findA d kv es 0 with
        | some (some (i, x, born)) => some (.tup [x, .v (.int .i64 (born : Nat))], σ.put b (.map (setVal es i kv x) clock))
        | some none => match zeroA P e with
          | some z => some (.tup [z, .v (.int .i64 (clock : Nat))], σ.put b (.map (es ++ [(kv, z, clock)]) (clock + 1)))
          | none => none
        | none => none
      | _ => none
    else none
  | _, _, _ => none
def bornAt (es : List (Value × A × Nat)) (n : Int) : Option Nat := es.findIdx? fun e => ((e.2.2 : Nat) : Int) == n
def entryStoreOp (m s x : A) (σ : St) : Option St :=
  match m, s with
  | .mp b, .v (.int _ n) => match σ.blks.get b with
    | some (.map es clock) => match bornAt es n with
      | some i => match es[i]? with
        | some (k, _, _) => some (σ.put b (.map (setVal es i k x) clock))
        | none => none
      | none => none
    | _ => none
  | _, _ => none
def deleteOp (P : Program) (t : TypeId) (m k : A) (σ : St) : Option St :=
  match keyDesc P t, m, k with
  | some (d, _), .mp b, .v kv => if keyFits d kv then match σ.blks.get b with
      | some (.map es clock) => match findA d kv es 0 with
        | some (some (i, _, _)) => some (σ.put b (.map (es.eraseIdx i) clock))
        | some none => some (σ.put b (.map es clock))
        | none => none
      | _ => none
    else none
  | _, _, _ => none

def rangeOp (P : Program) (t : TypeId) (x : A) (σ : St) : Option (A × St) :=
  match P.underlying t, x with
  | some .string, .v (.string s) => some (.ptr σ.next 0, σ.push (.siter s 0))
  | some (.map _ _), .mp b => match σ.blks.get b with
    | some (.map _ clock) => some (.ptr σ.next 0, σ.push (.miter b clock [] clock))
    | _ => none
  | _, _ => none
/-- the next entry of a map that has at most one left (of those that were there at the beginning) -/
def nextMap (σ : St) (b m since : Nat) (seen : List Nat) (last : Nat) (es : List (Value × A × Nat)) (clock : Nat) : Option (A × St) :=
  if !seen.isEmpty && !es.isEmpty && es.all (fun e => decide (last ≤ e.2.2)) then none else
  match es.filter (fun e => !seen.contains e.2.2) with
  | [] => some (.tup [.v (.bool false)], σ)
  | [e] => if e.2.2 < since then match ofVal e.1 with
      | some a => some (.tup [.v (.bool true), a, e.2.1], σ.put b (.miter m since (seen ++ [e.2.2]) clock))
      | none => none
    else none
  | _ => none
def nextOp (x : A) (isString : Bool) (σ : St) : Option (A × St) :=
  match x, isString with
  | .ptr b 0, true => match σ.blks.get b with
    | some (.siter s pos) => if pos < s.size then
        some (.tup [.v (.bool true), .v (.int .i64 (pos : Nat)), .v (.int .i32 (Utf8.decode s pos).1)], σ.put b (.siter s (pos + (Utf8.decode s pos).2)))
      else some (.tup [.v (.bool false)], σ)
    | _ => none
  | .ptr b 0, false => match σ.blks.get b with
    | some (.miter m since seen last) => match σ.blks.get m with
      | some (.map es clock) => nextMap σ b m since seen last es clock
      | _ => none
    | _ => none
  | _, _ => none

/-- the entry at which an iterator over a map stands -/
def iterEntry (x : A) (σ : St) : Option A :=
  match x with
  | .ptr b 0 => match σ.blks.get b with
    | some (.miter m _ seen stepped) => match σ.blks.get m, seen.getLast? with
      | some (.map es clock), some stamp => if clock = stepped then match es.find? (fun e => e.2.2 == stamp) with
          | some e => match ofVal e.1 with
            | some a => some (.tup [a, e.2.1])
            | none => none
          | none => none
        else none
      | _, _ => none
    | _ => none
  | _ => none
/-- the function that a method of an interface value is -/
def methodOf (P : Program) (t : TypeId) (name : String) : Option FuncId := match P.info? t with
  | some i => match i.methods.find? (·.name == name) with
    | some m => if m.path.isEmpty then match m.func, P.underlying t with
      | some (f, true), some (.pointer _) => some f
      | some (_, false), some (.pointer _) => none
      | some (f, false), some _ => some f
      | _, _ => none
      else none
    | none => none
  | none => none

def wrapV (x : Option A) (σ : St) : Option R := match x with
  | some a => some (.val a σ)
  | none => none
def wrapS (x : Option (A × St)) : Option R := match x with
  | some (a, σ) => some (.val a σ)
  | none => none
def wrapU (x : Option St) : Option R := match x with
  | some σ => some (.skip σ)
  | none => none

/-- an operand's value, where it bears no address -/
def valOf (ρ : Operand → Option A) (x : Operand) : Value := match ρ x with
  | some a => (toVal a).getD undef
  | none => undef
/-- what an operation comes to where all its operands bear no address -/
def detOp (C : Cfg) (ρ : Operand → Option A) (o : Oper) (σ : St) : Option R :=
  match det C.P (execOp (valOf ρ) o) with
  | some (.value u) => match ofVal u with
    | some a => some (.val a σ)
    | none => none
  | _ => none
/-- do all operands bear no address? -/
def plainOps (ρ : Operand → Option A) (l : List Operand) : Bool := l.all fun x => match ρ x with
  | some a => (toVal a).isSome
  | none => false
def detIf (C : Cfg) (ρ : Operand → Option A) (o : Oper) (σ : St) : Option R :=
  if plainOps ρ o.op.operands.toList then detOp C ρ o σ else none

/-- a function called -/
def callOp (C : Cfg) (f : FuncId) (args : List A) (σ : St) : Option R :=
  match C.P.funcs[f]? with
  | some fn => if fn.name = "runtime.NumGoroutine" then none else
    if fn.body.isSome then some (.call f args σ)
    else if fn.name = "internal/abi.NoEscape" ∧ fn.origin = "" then match args with
      | [x] => some (.val x σ)
      | _ => none
    else if fn.name = "internal/bytealg.MakeNoZero" ∧ fn.origin = "" then match args, fn.resultTypes.toList with
      | [.v (.int .i64 n)], [t] => match C.P.underlying t with
        | some (.slice e) => if 0 ≤ n ∧ n ≤ 281474976710656 ∧ sizeOfT C.P e = some 1 then some (.val (.raw σ.nextT n.toNat) (σ.tok e)) else none
        | _ => none
      | _, _ => none
    else none
  | none => none

/-- the parts of a literal -/
def isJunk : A → Bool
  | .junk => true
  | _ => false
def partsOf (ρ : Operand → Option A) : List (Nat × Operand) → Option (List (Nat × A))
  | [] => some []
  | (i, x) :: r => match ρ x with
    | some a => if isJunk a then none else match partsOf ρ r with
      | some l => some ((i, a) :: l)
      | none => none
    | none => none
/-- the operands of a call -/
def opsOf (ρ : Operand → Option A) : List Operand → Option (List A)
  | [] => some []
  | x :: r => match ρ x with
    | some a => match opsOf ρ r with
      | some l => some (a :: l)
      | none => none
    | none => none
def optOf (ρ : Operand → Option A) : Option Operand → Option (Option A)
  | none => some none
  | some y => match ρ y with
    | some a => some (some a)
    | none => none
def isFn : A → Option (Fn × List A × List A)
  | .fn f first cap => some (f, first, cap)
  | _ => none

def builtinOp (C : Cfg) (ρ : Operand → Option A) (b : Builtin) (c : Call) (o : Oper) (σ : St) : Option R :=
  match b, c.args.toList with
  | .append, [s, x] => match ρ s, ρ x, c.argTypes[0]?, c.argTypes[1]? with
    | some s, some x, some t, some t' => match C.P.underlying t' with
      | some (.int _) => wrapS (appendZ C.P t s x σ)
      | some _ => wrapS (if C.mutB t then appendM C.P t s x σ else appendOp C.P t s x σ)
      | none => none
    | _, _, _, _ => none
  | .copy, [d, s] => match ρ d, ρ s, c.argTypes[0]? with
    | some d, some s, some t => wrapS (copyOp C.P t d s σ)
    | _, _, _ => none
  | .len, [x] => match ρ x, c.argTypes[0]? with
    | some x, some t => match lenA C.P t x σ with
      | some n => some (.val (.v (.int .i64 (n : Nat))) σ)
      | none => detIf C ρ o σ
    | _, _ => none
  | .recover, [] => some (.rcv σ)
  | .delete, [m, k] => match ρ m, ρ k, c.argTypes[0]? with
    | some m, some k, some t => match deleteOp C.P t m k σ with
      | some σ' => some (.val und σ')
      | none => none
    | _, _, _ => none
  | .unsafeSliceData, [x] => match ρ x with
    | some x => match sliceDataOp x with
      | some a => some (.val a σ)
      | none => detIf C ρ o σ
    | none => none
  | .unsafeString, [x, n] => match ρ x, ρ n, c.argTypes[0]? with
    | some x, some n, some t => match unsafeStringOp C.P t x n σ with
      | some a => some (.val a σ)
      | none => detIf C ρ o σ
    | _, _, _ => none
  | .append, _ | .copy, _ | .clear, _ | .delete, _ | .close, _ | .print, _ | .println, _ | .panic, _ | .unsafeStringData, _ | .unsafeSlice, _ => none
  | _, _ => detIf C ρ o σ

def op (C : Cfg) (ρ : Operand → Option A) (o : Oper) (σ : St) : Option R :=
  match o.op with
  | .move x | .assign x => wrapV (ρ x) σ
  | .pick c a b => match ρ c with
    | some (.v (.bool t)) => wrapV (if t then ρ a else ρ b) σ
    | _ => none
  | .alloc e => match zeroOf C.P e with
    | some z => some (.val (.ptr σ.next 0) (σ.push (.cells z e)))
    | none => none
  | .box e x => match ρ x with
    | some a => if allOne a.cells then some (.val (.ptr σ.next 0) (σ.push (.cells a.cells e))) else none
    | none => none
  | .build t parts => match partsOf ρ parts.toList with
    | some l => wrapV (buildOp C.P t l) σ
    | none => none
  | .buildSlice t len parts => match partsOf ρ parts.toList with
    | some l => if C.mutB t then wrapS (buildSliceM C.P t len l σ) else wrapV (buildSliceOp C.P t len l) σ
    | none => none
  | .load t a => match ρ a with
    | some x => wrapV (loadOp C.P t x σ) σ
    | none => none
  | .store t a x => match ρ a, ρ x with
    | some a, some x => wrapU (storeOp C.P t a x σ)
    | _, _ => none
  | .nilCheck x => match ρ x with
    | some (.v _) => none
    | some (.fn (.func f) u c) => some (.val (.fn (.func f) u c) σ)
    | some (.fn _ _ _) => none
    | some .junk => none
    | some a => some (.val a σ)
    | none => none
  | .binOp b t x y _ => match b, ρ x, ρ y with
    | .eql, some x', some y' => match eqA C.P t x' y' with
      | some r => some (.val (.v (.bool r)) σ)
      | none => detIf C ρ o σ
    | .neq, some x', some y' => match eqA C.P t x' y' with
      | some r => some (.val (.v (.bool (!r))) σ)
      | none => detIf C ρ o σ
    | _, _, _ => detIf C ρ o σ
  | .unOp .. => detIf C ρ o σ
  | .convert s d x => match ρ x with
    | some x' => match convertOp C.P s d x' σ with
      | some (a, σ') => some (.val a σ')
      | none => detIf C ρ o σ
    | none => none
  | .makeInterface t x => match ρ x, C.P.underlying t with
    | some _, some (.interface _) => none
    | some a, some _ => some (.val (.ifc t a) σ)
    | _, _ => none
  | .makeFunc f first cap => match opsOf ρ first.toList, opsOf ρ cap.toList with
    | some l, some c => some (.val (.fn f l c) σ)
    | _, _ => none
  | .makeSlice t l c => match ρ l, ρ c with
    | some l, some c => wrapS (makeSliceOp C.P t l c σ)
    | _, _ => none
  | .slice t x lo hi none => match ρ x, optOf ρ lo, optOf ρ hi with
    | some x', some l, some h => match sliceOp C.P t x' l h σ with
      | some (a, σ') => some (.val a σ')
      | none => detIf C ρ o σ
    | _, _, _ => none
  | .fieldAddr s x f => match ρ x with
    | some a => wrapV (fieldOp C.P s a f) σ
    | none => none
  | .field t x f => match ρ x with
    | some a => wrapV (fieldVal C.P t a f) σ
    | none => none
  | .indexAddr t x i => match ρ x, ρ i with
    | some a, some i => wrapV (indexAddrOp C.P t a i) σ
    | _, _ => none
  | .index t x i => match ρ x, ρ i with
    | some a, some i' => match indexVal C.P t a i' with
      | some r => some (.val r σ)
      | none => detIf C ρ o σ
    | _, _ => none
  | .typeAssert x _ t ok => match ρ x with
    | some a => wrapV (typeAssertOp C.P a t ok) σ
    | none => none
  | .extract x i => match ρ x with
    | some (.tup vs) => wrapV vs[i]? σ
    | _ => none
  | .call c => match c.callee with
    | .value f => match ρ f, opsOf ρ c.args.toList with
      | some (.fn (.func g) first cap), some as =>
        match callOp C g (first ++ as ++ cap) σ with
        | some r => some r
        | none => detIf C ρ o σ
      | _, _ => none
    | .builtin b => builtinOp C ρ b c o σ
    | .invoke x name => match ρ x, opsOf ρ c.args.toList with
      | some (.ifc t y), some as => match methodOf C.P t name with
        | some f => callOp C f (y :: as) σ
        | none => none
      | _, _ => none
  | .defer c => match c.callee with
    | .value f => match ρ f, opsOf ρ c.args.toList with
      | some (.fn (.func g) first cap), some as => some (.dfr g (first ++ as ++ cap) σ)
      | _, _ => none
    | _ => none
  | .makeMap _ none => some (.val (.mp σ.next) (σ.push (.map [] 0)))
  | .lookup t m k ok => match ρ m, ρ k with
    | some m, some k => wrapV (lookupOp C.P t m k ok σ) σ
    | _, _ => none
  | .mapUpdate t m k x | .insert t m k x => match ρ m, ρ k, ρ x with
    | some m, some k, some x => wrapU (updateOp C.P t m k x σ)
    | _, _, _ => none
  | .mapEntry t m k => match ρ m, ρ k with
    | some m, some k => wrapS (entryOp C.P t m k σ)
    | _, _ => none
  | .entryStore _ m s x => match ρ m, ρ s, ρ x with
    | some m, some s, some x => wrapU (entryStoreOp m s x σ)
    | _, _, _ => none
  | .range t x => match ρ x with
    | some x => wrapS (rangeOp C.P t x σ)
    | none => none
  | .next x isS => match ρ x with
    | some x => wrapS (nextOp x isS σ)
    | none => none
  | .entry x => match ρ x with
    | some x => wrapV (iterEntry x σ) σ
    | none => none
  | .panic x => match ρ x with
    | some (.ifc t a) => some (.pan (.ifc t a) σ)
    | _ => none
  | _ => none

inductive X where
  | normal
  | exit (id : Nat)
  | ret
  | pan (x : A)

inductive Out where
  | ret (x : A)
  | pan (x : A)

def yieldedA (ops : Array Oper) (φ : Fr) (j : Nat) : Option (Option Bool) :=
  match (ops[j]?).bind (·.dst) with
  | some d => match φ.s.get d with
    | some (.v (.bool b)) => some (some b)
    | some .junk => none
    | some _ => some none
    | none => none
  | none => some none

def wantedA (ops : Array Oper) (φ : Fr) (o : Oper) : Option Bool := match o.guard with
  | none => some true
  | some (j, want) => match yieldedA ops φ j with
    | some y => some (y == some want)
    | none => none

/-- a slot written: within the frame alone -/
def putA (n : Nat) (φ : Fr) (d : Option Tmp) (x : A) : Option Fr := match d with
  | none => some φ
  | some t => if t < n then some (φ.set t x) else none

abbrev CallF := FuncId → List A → St → Option (Out × St)

/-- the operations of a region in their order -/
def runOps (C : Cfg) (callF : CallF) (n : Nat) (ops : Array Oper) : List Oper → Fr → St → Option (X × Fr × St)
  | [], φ, σ => some (.normal, φ, σ)
  | o :: r, φ, σ => match wantedA ops φ o with
    | some true => match op C (ev C φ) o σ with
      | some (.val x σ') => match putA n φ o.dst x with
        | some φ' => runOps C callF n ops r φ' σ'
        | none => none
      | some (.skip σ') => match putA n φ o.dst und with
        | some φ' => runOps C callF n ops r φ' σ'
        | none => none
      | some (.call f args σ') => match callF f args σ' with
        | some (.ret x, σ'') => match putA n φ o.dst x with
          | some φ' => runOps C callF n ops r φ' σ''
          | none => none
        | some (.pan x, σ'') => some (.pan x, φ, σ'')
        | none => none
      | some (.dfr f args σ') => match putA n { φ with ds := (f, args) :: φ.ds } o.dst und with
        | some φ' => runOps C callF n ops r φ' σ'
        | none => none
      | some (.pan x σ') => some (.pan x, φ, σ')
      | _ => none
    | some false => match putA n φ o.dst und with
      | some φ' => runOps C callF n ops r φ' σ
      | none => none
    | none => none

/-- what a quiet operation comes to: the machine's blocks stay -/
def opQ (C : Cfg) (ρ : Operand → Option A) (o : Oper) (σ : St) : Option A :=
  match o.op with
  | .move _ | .assign _ | .pick .. | .build .. | .load .. | .nilCheck _ | .unOp .. | .binOp .. | .makeInterface .. | .makeFunc .. | .fieldAddr .. | .field .. | .indexAddr .. | .index .. | .typeAssert .. | .extract .. | .lookup .. | .convert .. => match op C ρ o σ with
    | some (.val x _) => some x
    | _ => none
  | .buildSlice t _ _ => if C.mutB t then none else match op C ρ o σ with
    | some (.val x _) => some x
    | _ => none
  | .slice _ x _ _ _ => match ρ x with
    | some (.ms ..) => none
    | _ => match op C ρ o σ with
      | some (.val x _) => some x
      | _ => none
  | .call c => match c.callee with
    | .builtin b => match b with
      | .len | .cap | .min | .max | .unsafeSliceData => match op C ρ o σ with
        | some (.val x _) => some x
        | _ => none
      | _ => none
    | _ => none
  | _ => none
def isQuiet (C : Cfg) (o : Oper) : Bool := match o.op with
  | .buildSlice t _ _ => !C.mutB t
  | .move _ | .assign _ | .pick .. | .build .. | .load .. | .nilCheck _ | .unOp .. | .binOp .. | .makeInterface .. | .makeFunc .. | .fieldAddr .. | .field .. | .indexAddr .. | .index .. | .typeAssert .. | .extract .. | .lookup .. | .convert .. | .slice .. => true
  | .call c => match c.callee with
    | .builtin b => match b with
      | .len | .cap | .min | .max | .unsafeSliceData => true
      | _ => false
    | _ => false
  | _ => false
/-- is number i before number j, by the edges? -/
def bfr (bef : Array Nat) (i j : Nat) : Bool := (bef.getD j 0).testBit i
def slotsOf (ops : Array Oper) (o : Oper) : List Tmp :=
  (o.op.operands.toList.filterMap fun | .tmp t => some t | _ => none) ++ o.dst.toList ++ (match o.guard with | some (j, _) => ((ops[j]?).bind (·.dst)).toList | none => [])
def isAlloc (o : Oper) : Bool := match o.op with
  | .alloc _ => true
  | _ => false
/-- what makes a block -/
def isNew (o : Oper) : Bool := match o.op with
  | .alloc _ | .box .. | .makeSlice .. | .makeMap .. => true
  | _ => false
/-- an allocation (number j) that may be early: what acts behind it in the text has it before; what looks at its slot has all that acts ahead of it in the text before -/
def earlyOk (C : Cfg) (ops : Array Oper) (bef : Array Nat) (j : Nat) : Bool := match ops[j]? with
  | some o => isNew o && (List.range ops.size).all fun p => match ops[p]? with
      | some q => decide (p ≤ j) || (match o.dst with
          | some d => !(slotsOf ops q).contains d || (List.range j).all fun i => match ops[i]? with
              | some r => isQuiet C r || bfr bef i p
              | none => false
          | none => true)
      | none => false
  | none => false
/-- may the region be run in the text's order, whatever its order? (by its text) -/
def drawOk (C : Cfg) (ops : Array Oper) (bef : Array Nat) : Bool :=
  (List.range ops.size).all fun j => match ops[j]? with
    | none => false
    | some o => (o.after.all fun e => !Region.binds .any e || e.on < j) &&
      (List.range ops.size).all fun i => match ops[i]? with
        | none => false
        | some p => i == j || ((isQuiet C p || isQuiet C o || bfr bef i j || bfr bef j i || (decide (i < j) && earlyOk C ops bef j) || (decide (j < i) && earlyOk C ops bef i)) &&
            (match p.dst with
              | some d => !(slotsOf ops o).contains d || bfr bef i j || bfr bef j i
              | none => true))

/-- a quiet operation that asks nothing of the blocks -/
def pureQ (C : Cfg) (ρ : Operand → Option A) (o : Oper) : Bool := match o.op with
  | .buildSlice t _ _ => !C.mutB t
  | .move _ | .assign _ | .pick .. | .build .. | .nilCheck _ | .unOp .. | .binOp .. | .makeInterface .. | .makeFunc .. | .fieldAddr .. | .field .. | .indexAddr .. | .index .. | .typeAssert .. | .extract .. => true
  | .load _ a => match ρ a with
    | some (.sp ..) => true
    | _ => false
  | .call c => match c.callee, c.args.toList with
    | .builtin .len, [x] => match ρ x with
      | some (.sl ..) | some (.v _) | some (.ms ..) => true
      | _ => false
    | _, _ => false
  | _ => false
open Classical in
/-- the same data: by comparison, or as it is -/
noncomputable def A.same (y x : A) : Bool := A.beq y x || decide (y = x)
noncomputable def sameA (C : Cfg) (φ : Fr) (o : Oper) (σ : St) (x : A) : Bool := pureQ C (ev C φ) o || match opQ C (ev C φ) o σ with
  | some y => A.same y x
  | none => false
/-- the answer is the same ahead of each loud one that may come behind -/
noncomputable def stableP (C : Cfg) (bef : Array Nat) (φ : Fr) (o : Oper) (j : Nat) (x : A) (l : List (Nat × St)) : Bool :=
  l.all fun (i, σ) => bfr bef i j || sameA C φ o σ x
noncomputable def stableF (C : Cfg) (bef : Array Nat) (i : Nat) (σ : St) (l : List (Nat × Fr × Oper × A)) : Bool :=
  l.all fun (j, φ, o, x) => bfr bef j i || sameA C φ o σ x

/-- an operation that acts upon the blocks -/
def loudStep (C : Cfg) (callF : CallF) (φ : Fr) (o : Oper) (σ : St) : Option (A × St) := match op C (ev C φ) o σ with
  | some (.val x σ') => some (x, σ')
  | some (.skip σ') => some (und, σ')
  | some (.call f args σ') => match callF f args σ' with
    | some (.ret x, σ'') => some (x, σ'')
    | _ => none
  | _ => none

/-- a region whose order is open (past: the loud ones so far, each with the blocks ahead of it; pend: the quiet ones, with what they came to) -/
noncomputable def runDr (C : Cfg) (callF : CallF) (n : Nat) (ops : Array Oper) (bef : Array Nat) : List Oper → Nat → Fr → St → List (Nat × St) → List (Nat × Fr × Oper × A) → Option (X × Fr × St)
  | [], _, φ, σ, _, _ => some (.normal, φ, σ)
  | o :: r, j, φ, σ, past, pend => match wantedA ops φ o with
    | some true =>
      if isQuiet C o then match opQ C (ev C φ) o σ with
        | some x => if stableP C bef φ o j x past then match putA n φ o.dst x with
            | some φ' => runDr C callF n ops bef r (j + 1) φ' σ past ((j, φ, o, x) :: pend)
            | none => none
          else none
        | none => none
      else match loudStep C callF φ o σ with
        | some (x, σ') => if stableF C bef j σ' pend then match putA n φ o.dst x with
            | some φ' => runDr C callF n ops bef r (j + 1) φ' σ' ((j, σ) :: past) pend
            | none => none
          else none
        | none => none
    | some false => match putA n φ o.dst und with
      | some φ' => runDr C callF n ops bef r (j + 1) φ' σ past pend
      | none => none
    | none => none

/-- a call that panics -/
def panStep (C : Cfg) (callF : CallF) (φ : Fr) (o : Oper) (σ : St) : Option (A × St) := match op C (ev C φ) o σ with
  | some (.call f args σ') => match callF f args σ' with
    | some (.pan v, σ'') => some (v, σ'')
    | _ => none
  | _ => none
def junkO (φ : Fr) (o : Oper) : Fr := match o.dst with
  | some d => φ.set d .junk
  | none => φ
/-- a frame of which nothing is known at the slots that the operations set -/
def junkF (l : List Oper) (φ : Fr) : Fr := l.foldl junkO φ
/-- an allocation of a type that has a zero value -/
def allocZ (C : Cfg) (o : Oper) : Bool := match o.op with
  | .alloc t => (zeroOf C.P t).isSome
  | _ => false
/-- the operations behind a call (number p) that panicked: what does not wait for it must be quiet and give something, since it may have been done before -/
noncomputable def runDv (C : Cfg) (n : Nat) (ops : Array Oper) (bef : Array Nat) (p : Nat) : List Oper → Nat → Fr → St → List (Nat × St) → Bool
  | [], _, _, _, _ => true
  | o :: r, j, φ, σ, past => if bfr bef p j then match putA n φ o.dst .junk with
      | some φ' => runDv C n ops bef p r (j + 1) φ' σ ((j, σ) :: past)
      | none => false
    else match wantedA ops φ o with
      | some true => if isQuiet C o then match opQ C (ev C φ) o σ with
          | some x => if stableP C bef φ o j x past then match putA n φ o.dst x with
              | some φ' => runDv C n ops bef p r (j + 1) φ' σ past
              | none => false
            else false
          | none => false
        else if allocZ C o then match putA n φ o.dst .junk with
          | some φ' => runDv C n ops bef p r (j + 1) φ' σ past
          | none => false
        else false
      | some false => match putA n φ o.dst und with
        | some φ' => runDv C n ops bef p r (j + 1) φ' σ past
        | none => false
      | none => false
/-- runDr, and a call that panics -/
noncomputable def runDq (C : Cfg) (callF : CallF) (n : Nat) (ops : Array Oper) (bef : Array Nat) : List Oper → Nat → Fr → St → List (Nat × St) → List (Nat × Fr × Oper × A) → Option (X × Fr × St)
  | [], _, φ, σ, _, _ => some (.normal, φ, σ)
  | o :: r, j, φ, σ, past, pend => match wantedA ops φ o with
    | some true =>
      if isQuiet C o then match opQ C (ev C φ) o σ with
        | some x => if stableP C bef φ o j x past then match putA n φ o.dst x with
            | some φ' => runDq C callF n ops bef r (j + 1) φ' σ past ((j, φ, o, x) :: pend)
            | none => none
          else none
        | none => none
      else match loudStep C callF φ o σ with
        | some (x, σ') => if stableF C bef j σ' pend then match putA n φ o.dst x with
            | some φ' => runDq C callF n ops bef r (j + 1) φ' σ' ((j, σ) :: past) pend
            | none => none
          else none
        | none => match panStep C callF φ o σ with
          | some (v, σ'') => match putA n φ o.dst .junk with
            | some φ' => if runDv C n ops bef j r (j + 1) φ' σ ((j, σ) :: past) then some (.pan v, junkF ops.toList φ, σ'') else none
            | none => none
          | none => none
    | some false => match putA n φ o.dst und with
      | some φ' => runDq C callF n ops bef r (j + 1) φ' σ past pend
      | none => none
    | none => none
theorem runDr_dq {C : Cfg} {callF : CallF} {n : Nat} {ops : Array Oper} {bef : Array Nat} : ∀ {l : List Oper} {j : Nat} {φ : Fr} {σ : St} {past : List (Nat × St)} {pend : List (Nat × Fr × Oper × A)} {r : X × Fr × St},
    runDr C callF n ops bef l j φ σ past pend = some r → runDq C callF n ops bef l j φ σ past pend = some r
  | [], j, φ, σ, past, pend, r, h => by simp only [runDr] at h; simp only [runDq]; exact h
  | o :: l, j, φ, σ, past, pend, r, h => by
    simp only [runDr] at h
    simp only [runDq]
    split at h
    · rename_i hw
      try simp only [hw]
      split at h
      · rename_i hq
        try rw [if_pos hq]
        split at h
        case h_2 => cases h
        rename_i x hx
        try simp only [hx]
        split at h
        case isFalse => cases h
        rename_i hst
        try rw [if_pos hst]
        split at h
        case h_2 => cases h
        rename_i φ' hp
        try rw [hp]
        exact runDr_dq h
      · rename_i hq
        try rw [if_neg hq]
        split at h
        case h_2 => cases h
        rename_i x σ' hx
        try simp only [hx]
        split at h
        case isFalse => cases h
        rename_i hst
        try rw [if_pos hst]
        split at h
        case h_2 => cases h
        rename_i φ' hp
        try rw [hp]
        exact runDr_dq h
    · rename_i hw
      try simp only [hw]
      split at h
      case h_2 => cases h
      rename_i φ' hp
      try rw [hp]
      exact runDr_dq h
    · cases h

theorem runDq_dr {C : Cfg} {callF : CallF} {n : Nat} {ops : Array Oper} {bef : Array Nat} : ∀ {l : List Oper} {j : Nat} {φ φ' : Fr} {σ σ' : St} {past : List (Nat × St)} {pend : List (Nat × Fr × Oper × A)},
    runDq C callF n ops bef l j φ σ past pend = some (.normal, φ', σ') → runDr C callF n ops bef l j φ σ past pend = some (.normal, φ', σ')
  | [], j, φ, φ', σ, σ', past, pend, h => by simp only [runDq] at h; simp only [runDr]; exact h
  | o :: l, j, φ, φ', σ, σ', past, pend, h => by
    simp only [runDq] at h
    simp only [runDr]
    split at h
    · rename_i hw
      try simp only [hw]
      split at h
      · rename_i hq
        try rw [if_pos hq]
        split at h
        case h_2 => cases h
        rename_i x hx
        try simp only [hx]
        split at h
        case isFalse => cases h
        rename_i hst
        try rw [if_pos hst]
        split at h
        case h_2 => cases h
        rename_i φ' hp
        try rw [hp]
        exact runDq_dr h
      · rename_i hq
        try rw [if_neg hq]
        split at h
        · rename_i x σ' hx
          try simp only [hx]
          split at h
          case isFalse => cases h
          rename_i hst
          try rw [if_pos hst]
          split at h
          case h_2 => cases h
          rename_i φ' hp
          try rw [hp]
          exact runDq_dr h
        · split at h
          case h_2 => cases h
          split at h
          case h_2 => cases h
          split at h <;> cases h
    · rename_i hw
      try simp only [hw]
      split at h
      case h_2 => cases h
      rename_i φ' hp
      try rw [hp]
      exact runDq_dr h
    · cases h

/-- the elements of a slice that may be appended to -/
def lenS (s : A) (sz : Nat) : Option Nat := match s with
  | .v (.slice none 0 0) => some 0
  | .sl sz' cs _ => if sz' = sz then some (cs.length / sz) else none
  | _ => none

/-- the address where such a slice is stored: a field's, or an element's of a slice that is a block -/
inductive LateAdr where
  | fld (t : TypeId) (x : Tmp) (f : Nat)
  | idx (t : TypeId) (x i : Tmp)
def LateAdr.tmps : LateAdr → List Tmp
  | .fld _ x _ => [x]
  | .idx _ x i => [x, i]
/-- the last five operations of a region that appends an element whose value is stored later: the append, the element's place, its store, the address for the slice, the store of the slice there -/
structure LateP where
  c : Call
  s : Tmp
  z : Tmp
  ti : Tmp
  tv : Tmp
  ad : LateAdr
  ta : Tmp
  tp : Tmp
  tb : Tmp
  t1 : TypeId
  e : TypeId
  t2 : TypeId
def lateP1 (o : Oper) : Option (Call × Tmp × Tmp × Tmp) := match o.op, o.dst, o.guard with
  | .call c, some ta, none => match c.callee, c.args.toList with
    | .builtin .append, [.tmp s, .tmp z] => some (c, s, z, ta)
    | _, _ => none
  | _, _, _ => none
def lateP2 (o : Oper) : Option (TypeId × Tmp × Tmp × Tmp) := match o.op, o.dst, o.guard with
  | .indexAddr t (.tmp a) (.tmp i), some p, none => some (t, a, i, p)
  | _, _, _ => none
def lateP3 (o : Oper) : Option (TypeId × Tmp × Tmp) := match o.op, o.dst, o.guard with
  | .store t (.tmp p) (.tmp v), none, none => some (t, p, v)
  | _, _, _ => none
def lateP4 (o : Oper) : Option (LateAdr × Tmp) := match o.op, o.dst, o.guard with
  | .fieldAddr t (.tmp x) f, some b, none => some (.fld t x f, b)
  | .indexAddr t (.tmp x) (.tmp i), some b, none => some (.idx t x i, b)
  | _, _, _ => none
def lateP (l : List Oper) : Option LateP := match l with
  | [o0, o1, o2, o3, o4] => match lateP1 o0, lateP2 o1, lateP3 o2, lateP4 o3, lateP3 o4 with
    | some (c, s, z, ta), some (t1, ta1, ti, tp), some (e, tp1, tv), some (ad, tb), some (t2, tb1, ta2) =>
      if ta1 = ta ∧ ta2 = ta ∧ tp1 = tp ∧ tb1 = tb ∧ ta ≠ ti ∧ ta ≠ tv ∧ ta ≠ tp ∧ ta ≠ tb ∧ tp ≠ tb ∧ tp ≠ tv ∧ tb ≠ ti ∧ tb ≠ tv ∧ tp ≠ ti ∧ ta ∉ ad.tmps ∧ tp ∉ ad.tmps ∧ tb ∉ ad.tmps then
        some ⟨c, s, z, ti, tv, ad, ta, tp, tb, t1, e, t2⟩
      else none
    | _, _, _, _, _ => none
  | _ => none
/-- the order of such a region, by its text -/
def lateSt (ops : Array Oper) (bef : Array Nat) (m : Nat) : Bool :=
  ((List.range ops.size).all fun j => match ops[j]? with
    | none => false
    | some o => (o.after.all fun e => !Region.binds .any e || e.on < j) && (decide (m ≤ j) || o.guard.isNone)) &&
  ((List.range ops.size).all fun j => decide (j < m) || (List.range m).all fun p => bfr bef p j) &&
  bfr bef m (m + 1) && bfr bef m (m + 2) && bfr bef m (m + 3) && bfr bef m (m + 4) && bfr bef (m + 1) (m + 2) && bfr bef (m + 3) (m + 4)
/-- the address's data -/
def LateAdr.val (C : Cfg) (φ : Fr) : LateAdr → Option A
  | .fld t x f => match φ.s.get x with
    | some (.ptr b o) => fieldOp C.P t (.ptr b o) f
    | _ => none
  | .idx t x i => match φ.s.get x, φ.s.get i with
    | some (.ms b o len _), some (.v (.int _ j)) => match C.P.underlying t with
      | some (.slice e) => match sizeOfT C.P e with
        | some sz => if 0 ≤ j ∧ j < (len : Nat) then some (.ptr b (o + j.toNat * sz)) else none
        | none => none
      | _ => none
    | _, _ => none
def lateVal (C : Cfg) (n : Nat) (p : LateP) (s z ti v : A) (ad : Option A) (σ : St) : Option (A × A × St) :=
  match z, ti with
  | .sl sz zs _, .v (.int _ len) =>
    match p.c.argTypes[0]?, p.c.argTypes[1]? with
    | some t, some t' => match C.P.underlying t, C.P.underlying t', C.P.underlying p.t1 with
      | some (.slice e), some (.slice _), some (.slice e1) =>
        if sizeOfT C.P e = some sz ∧ sizeOfT C.P e1 = some sz ∧ sizeOfT C.P p.e = some sz ∧ zs.length = sz ∧ allOne zs = true ∧ v.cells.length = sz ∧ allOne v.cells = true ∧ 0 ≤ len ∧ lenS s sz = some len.toNat ∧ p.ta < n ∧ p.tp < n ∧ p.tb < n then
          match appendOp C.P t s (.sl sz v.cells .no) σ with
          | some (a, σ2) => match ad with
            | some (.ptr b' o') => match storeOp C.P p.t2 (.ptr b' o') a σ2 with
              | some σ3 => some (a, .ptr b' o', σ3)
              | none => none
            | _ => none
          | none => none
        else none
      | _, _, _ => none
    | _, _ => none
  | _, _ => none
def lateTail (C : Cfg) (n : Nat) (p : LateP) (φ : Fr) (σ : St) : Option (X × Fr × St) :=
  match φ.s.get p.s, φ.s.get p.z, φ.s.get p.ti, φ.s.get p.tv with
  | some s, some z, some ti, some v => match lateVal C n p s z ti v (p.ad.val C φ) σ with
    | some (a, y, σ3) => some (.normal, ((φ.set p.ta a).set p.tp .junk).set p.tb y, σ3)
    | none => none
  | _, _, _, _ => none
noncomputable def runLate (C : Cfg) (callF : CallF) (n : Nat) (ops : Array Oper) (φ : Fr) (σ : St) : Option (X × Fr × St) :=
  match lateP (ops.toList.drop (ops.size - 5)) with
  | some p =>
    if lateSt ops (Region.before ops) (ops.size - 5) && drawOk C (ops.toList.take (ops.size - 5)).toArray (Region.before (ops.toList.take (ops.size - 5)).toArray) then
      match runDr C callF n (ops.toList.take (ops.size - 5)).toArray (Region.before (ops.toList.take (ops.size - 5)).toArray) (ops.toList.take (ops.size - 5)).toArray.toList 0 φ σ [] [] with
      | some (.normal, φ1, σ1) => lateTail C n p φ1 σ1
      | _ => none
    else none
  | none => none
/-- a region whose order is open -/
noncomputable def runOpen (C : Cfg) (callF : CallF) (n : Nat) (ops : Array Oper) (φ : Fr) (σ : St) : Option (X × Fr × St) :=
  if drawOk C ops (Region.before ops) then runDq C callF n ops (Region.before ops) ops.toList 0 φ σ [] [] else runLate C callF n ops φ σ

def zeroBool : Option (List A) → Bool
  | some [.v (.bool _)] => true
  | _ => false
/-- a region that allocates a bool, stores two constants there in either order, and loads it: its temporaries (address, value) -/
def coinR (C : Cfg) (n : Nat) (ops : Array Oper) : Option (TypeId × Tmp × Tmp) := match ops.toList with
  | [o0, o1, o2, o3] => match o0.op, o0.dst, o1.op, o2.op, o3.op, o3.dst with
    | .alloc e, some c, .store t1 (.tmp c1) (.const (.bool _)), .store t2 (.tmp c2) (.const (.bool _)), .load t3 (.tmp c3), some t =>
      if c1 = c ∧ c2 = c ∧ c3 = c ∧ c ≠ t ∧ c < n ∧ t < n ∧ zeroBool (zeroOf C.P e) = true ∧ sizeOfT C.P t1 = some 1 ∧ sizeOfT C.P t2 = some 1 ∧ sizeOfT C.P t3 = some 1 ∧ isAggT C.P t3 = some false ∧
          o0.guard = none ∧ o1.guard = none ∧ o2.guard = none ∧ o3.guard = none ∧ o1.dst = none ∧ o2.dst = none ∧
          Region.ready .any ops #[false, false, false, false] = [0] ∧ Region.ready .any ops #[true, false, false, false] = [1, 2] ∧ Region.ready .any ops #[true, true, false, false] = [2] ∧ Region.ready .any ops #[true, false, true, false] = [1] ∧
          Region.ready .any ops #[true, true, true, false] = [3] ∧ Region.ready .any ops #[true, true, true, true] = [] then some (e, c, t) else none
    | _, _, _, _, _, _ => none
  | _ => none
/-- the regions of a choice between two ways to append an element to a slice that lies somewhere: the coin; the slice appended and stored, then the element stored; both at once -/
structure CoinP where
  ops : Array Oper
  o1 : Array Oper
  o2 : Array Oper
  oB : Array Oper
def coinP (C : Cfg) (n : Nat) : Code → Code → Option CoinP
  | .region _ ops true, .cond (.tmp t) (.seq (.region _ o1 true) (.region _ o2 false)) (.region _ oB true) => match coinR C n ops with
    | some (_, _, t') => if t' = t ∧ drawOk C ops (Region.before ops) = false ∧ (lateP (ops.toList.drop (ops.size - 5))).isNone = true then some ⟨ops, o1, o2, oB⟩ else none
    | none => none
  | _, _ => none
/-- the five operations of the first way, in the order of a late store -/
def lateQ (l1 l2 : List Oper) : Option LateP := match l1, l2 with
  | [o0, o3, o4], [o1, o2] => lateP [o0, o1, o2, o3, o4]
  | _, _ => none
def lateSq (ops : Array Oper) (bef : Array Nat) (m : Nat) : Bool :=
  ((List.range ops.size).all fun j => match ops[j]? with
    | none => false
    | some o => (o.after.all fun e => !Region.binds .any e || e.on < j) && (decide (m ≤ j) || o.guard.isNone)) &&
  ((List.range ops.size).all fun j => decide (j < m) || (List.range m).all fun p => bfr bef p j) &&
  bfr bef m (m + 1) && bfr bef m (m + 2) && bfr bef (m + 1) (m + 2)
noncomputable def lateA (C : Cfg) (callF : CallF) (n : Nat) (o1 o2 : Array Oper) (φ : Fr) (σ : St) : Option St :=
  match lateQ (o1.toList.drop (o1.size - 3)) o2.toList with
  | some p =>
    if lateSq o1 (Region.before o1) (o1.size - 3) && drawOk C (o1.toList.take (o1.size - 3)).toArray (Region.before (o1.toList.take (o1.size - 3)).toArray) then
      match runDr C callF n (o1.toList.take (o1.size - 3)).toArray (Region.before (o1.toList.take (o1.size - 3)).toArray) (o1.toList.take (o1.size - 3)).toArray.toList 0 φ σ [] [] with
      | some (.normal, φ1, σ1) => match lateTail C n p φ1 σ1 with
        | some (_, _, σ3) => some σ3
        | none => none
      | _ => none
    else none
  | none => none
open Classical in
noncomputable def coinRun (C : Cfg) (callF : CallF) (n : Nat) (q : CoinP) (φ : Fr) (σ : St) : Option (Fr × St) :=
  if drawOk C q.oB (Region.before q.oB) then
    match runDr C callF n q.oB (Region.before q.oB) q.oB.toList 0 (junkF q.ops.toList φ) σ [] [], lateA C callF n q.o1 q.o2 (junkF q.ops.toList φ) σ with
    | some (_, _, σB), some σA => if σA = σB then some (junkF (q.o1.toList ++ q.o2.toList ++ q.oB.toList) (junkF q.ops.toList φ), σB) else none
    | _, _ => none
  else none
noncomputable def exec (C : Cfg) (callF : CallF) (n : Nat) : Nat → Code → Fr → St → Option (X × Fr × St)
  | 0, _, _, _ => none
  | k + 1, c, φ, σ => match c with
    | .skip => some (.normal, φ, σ)
    | .region _ ops false => runOps C callF n ops ops.toList φ σ
    | .region _ ops true => runOpen C callF n ops φ σ
    | .seq a b => match exec C callF n k a φ σ with
      | some (.normal, φ', σ') => exec C callF n k b φ' σ'
      | some r => some r
      | none => match coinP C n a b with
        | some q => match coinRun C callF n q φ σ with
          | some (φ', σ') => some (.normal, φ', σ')
          | none => none
        | none => none
    | .cond x a b => match ev C φ x with
      | some (.v (.bool t)) => exec C callF n k (if t then a else b) φ σ
      | _ => none
    | .block id a => match exec C callF n k a φ σ with
      | some (.exit j, φ', σ') => if j = id then some (.normal, φ', σ') else some (.exit j, φ', σ')
      | r => r
    | .loop a => match exec C callF n k a φ σ with
      | some (.normal, φ', σ') => exec C callF n k (.loop a) φ' σ'
      | r => r
    | .exit id => some (.exit id, φ, σ)
    | .ret => some (.ret, φ, σ)
    | _ => none

/-- a region of a deferred function: recover is answered (p: the panic that stands, if it is not recovered) -/
def runOpsS (C : Cfg) (callF : CallF) (n : Nat) (ops : Array Oper) : List Oper → Fr → St → Option A → Option (X × Fr × St × Option A)
  | [], φ, σ, p => some (.normal, φ, σ, p)
  | o :: r, φ, σ, p => match wantedA ops φ o with
    | some true => match op C (ev C φ) o σ with
      | some (.val x σ') => match putA n φ o.dst x with
        | some φ' => runOpsS C callF n ops r φ' σ' p
        | none => none
      | some (.skip σ') => match putA n φ o.dst und with
        | some φ' => runOpsS C callF n ops r φ' σ' p
        | none => none
      | some (.call f args σ') => match callF f args σ' with
        | some (.ret x, σ'') => match putA n φ o.dst x with
          | some φ' => runOpsS C callF n ops r φ' σ'' p
          | none => none
        | _ => none
      | some (.rcv σ') => match putA n φ o.dst (p.getD (.v .nilIface)) with
        | some φ' => runOpsS C callF n ops r φ' σ' none
        | none => none
      | _ => none
    | some false => match putA n φ o.dst und with
      | some φ' => runOpsS C callF n ops r φ' σ p
      | none => none
    | none => none

/-- the code of a deferred function -/
noncomputable def execS (C : Cfg) (callF : CallF) (n : Nat) : Nat → Code → Fr → St → Option A → Option (X × Fr × St × Option A)
  | 0, _, _, _, _ => none
  | k + 1, c, φ, σ, p => match c with
    | .region _ ops false => runOpsS C callF n ops ops.toList φ σ p
    | .seq a b => match execS C callF n k a φ σ p with
      | some (.normal, φ', σ', p') => execS C callF n k b φ' σ' p'
      | r => r
    | .cond x a b => match ev C φ x with
      | some (.v (.bool t)) => execS C callF n k (if t then a else b) φ σ p
      | _ => none
    | c => match exec C callF n (k + 1) c φ σ with
      | some (.normal, φ', σ') => some (.normal, φ', σ', p)
      | some (.ret, φ', σ') => some (.ret, φ', σ', p)
      | _ => none

def argFr : Nat → List A → Tr A
  | _, [] => .nil
  | i, a :: r => Tr.set (argFr (i + 1) r) i a

def resA (C : Cfg) (φ : Fr) (σ : St) : List ResultVar → Option (List A)
  | [] => some []
  | .tmp t :: r => match φ.s.get t, resA C φ σ r with
    | some x, some l => some (x :: l)
    | _, _ => none
  | .cell a t :: r => match φ.s.get a with
    | some p => match loadOp C.P t p σ, resA C φ σ r with
      | some x, some l => some (x :: l)
      | _, _ => none
    | none => none
def oneOrTup : List A → A
  | [x] => x
  | l => .tup l

/-- a deferred function called; p: the panic that stands -/
noncomputable def callD (C : Cfg) (callF : CallF) (k : Nat) (f : FuncId) (args : List A) (σ : St) (p : Option A) : Option (St × Option A) :=
  match C.P.funcs[f]? with
  | some fn => match fn.body with
    | some c => if args.length ≤ fn.ntmps ∧ fn.name ≠ "runtime.NumGoroutine" then
        match execS C callF fn.ntmps k c ⟨argFr 0 args, []⟩ σ p with
        | some (.normal, φ, σ', p') | some (.ret, φ, σ', p') => match φ.ds, resA C φ σ' fn.results.toList with
          | [], some _ => some (σ', p')
          | _, _ => none
        | _ => none
      else none
    | none => none
  | none => none

/-- the deferred calls of a frame, the last first -/
noncomputable def leave (C : Cfg) (callF : CallF) (k : Nat) : List (FuncId × List A) → St → Option A → Option (St × Option A)
  | [], σ, p => some (σ, p)
  | (f, args) :: r, σ, p => match callD C callF k f args σ p with
    | some (σ', p') => leave C callF k r σ' p'
    | none => none

noncomputable def call (C : Cfg) : Nat → FuncId → List A → St → Option (Out × St)
  | 0, _, _, _ => none
  | k + 1, f, args, σ =>
    match C.prim f with
    | some g => match g args σ with
      | some (x, σ') => some (.ret x, σ')
      | none => none
    | none => match C.P.funcs[f]? with
      | some fn => match fn.body with
        | some c => if args.length ≤ fn.ntmps then
            match exec C (call C k) fn.ntmps (k + 1) c ⟨argFr 0 args, []⟩ σ with
            | some (.normal, φ, σ') | some (.ret, φ, σ') => match leave C (call C k) (k + 1) φ.ds σ' none with
              | some (σ'', none) => match resA C φ σ'' fn.results.toList with
                | some l => some (.ret (oneOrTup l), σ'')
                | none => none
              | _ => none
            | some (.pan x, φ, σ') => match leave C (call C k) (k + 1) φ.ds σ' (some x) with
              | some (σ'', none) => match resA C φ σ'' fn.results.toList with
                | some l => some (.ret (oneOrTup l), σ'')
                | none => none
              | some (σ'', some y) => some (.pan y, σ'')
              | none => none
            | _ => none
          else none
        | none => none
      | none => none

end Go.DM
namespace Go.DM
open Go Go.RowKit

/-- what stands for what: the world - the machine's blocks - how many cells of a block do not change any more - the blocks that a token owns - the tokens that live -/
structure K where
  base : Nat
  w : World
  blk : Nat → Option Nat
  frz : Nat → Option Nat
  own : Nat → Option Nat
  live : Nat → Bool

def ApRel (k : K) (c i m sz cap : Nat) : Ap → Prop
  | .no => True
  | .ex => cap = m / sz ∧ k.base ≤ c ∧ ∀ id, k.own id ≠ some c
  | .gr id => k.own id = some c ∧ (k.live id = true → cap = m / sz ∨ (k.frz c = some (i + m) ∧ ∃ cs e fr, k.w.heap[c]? = some (.cells cs e fr) ∧ cs.size = i + cap * sz))

def spRel (k : K) (c : Nat) : Ap → Prop
  | .gr id => k.own id = some c
  | _ => True

inductive Rel (k : K) : A → Value → Prop
  | v {x : Value} : scal x = true → Rel k (.v x) x
  | ptr {b o c : Nat} : k.blk b = some c → Rel k (.ptr b o) (.pointer (some ⟨c, o, none⟩))
  | sp {cs : List A} {o c i n : Nat} {ap : Ap} (u : Nat → Value) : k.frz c = some n → i + cs.length ≤ n →
      (∀ (j : Nat) (a : A), cs[j]? = some a → k.w.cell? ⟨c, i + j, none⟩ = some (u j)) → (∀ (j : Nat) (a : A), cs[j]? = some a → Rel k a (u j)) → spRel k c ap →
      Rel k (.sp cs o ap) (.pointer (some ⟨c, i + o, none⟩))
  | sl {sz : Nat} {cs : List A} {ap : Ap} {c i n cap : Nat} (u : Nat → Value) : k.frz c = some n → i + cs.length ≤ n →
      (∀ (j : Nat) (a : A), cs[j]? = some a → k.w.cell? ⟨c, i + j, none⟩ = some (u j)) → (∀ (j : Nat) (a : A), cs[j]? = some a → Rel k a (u j)) →
      0 < sz → cs.length = cs.length / sz * sz → cs.length / sz ≤ cap → ApRel k c i cs.length sz cap ap →
      Rel k (.sl sz cs ap) (.slice (some ⟨c, i, none⟩) (cs.length / sz) cap)
  | sl0 {sz cap : Nat} {a : Addr} : 0 < sz → Rel k (.sl sz [] .no) (.slice (some a) 0 cap)
  | ms {b o len cap c : Nat} : k.blk b = some c → len ≤ cap → cap < capX → Rel k (.ms b o len cap) (.slice (some ⟨c, o, none⟩) len cap)
  | mv {b o len cap sz c : Nat} {arr : Array Value} {e : TypeId} {fr : Nat × Nat} : k.blk b = some c → len ≤ cap → k.w.heap[c]? = some (.cells arr e fr) → o + cap * sz = arr.size → Rel k (.ms b o len (capX + sz)) (.slice (some ⟨c, o, none⟩) len cap)
  | mp {b c : Nat} : k.blk b = some c → Rel k (.mp b) (.map (some c))
  | fn {f : Fn} {first cap : List A} {us vs : List Value} : first.length = us.length → cap.length = vs.length →
      (∀ (j : Nat) (a : A) (u : Value), first[j]? = some a → us[j]? = some u → Rel k a u) → (∀ (j : Nat) (a : A) (u : Value), cap[j]? = some a → vs[j]? = some u → Rel k a u) → Rel k (.fn f first cap) (.func f us.toArray vs.toArray)
  | ifc {t : TypeId} {x : A} {u : Value} : Rel k x u → Rel k (.ifc t x) (.iface t u)
  | agg {cs : List A} {us : List Value} : cs.length = us.length → (∀ (j : Nat) (a : A) (u : Value), cs[j]? = some a → us[j]? = some u → Rel k a u) → Rel k (.agg cs) (.agg us.toArray)
  | tup {cs : List A} {us : List Value} : cs.length = us.length → (∀ (j : Nat) (a : A) (u : Value), cs[j]? = some a → us[j]? = some u → Rel k a u) → Rel k (.tup cs) (.tuple us.toArray)
  | raw {id n c cap : Nat} : k.own id = some c → n ≤ cap → (k.live id = true → k.frz c = some 0 ∧ ∃ cs e fr, k.w.heap[c]? = some (.cells cs e fr) ∧ cs.size = cap) → (∃ m, k.frz c = some m) →
      Rel k (.raw id n) (.slice (some ⟨c, 0, none⟩) n cap)
  | junk {v : Value} : Rel k .junk v

theorem Rel.msInv {k : K} {b o len cap : Nat} {u : Value} (h : Rel k (.ms b o len cap) u) : ∃ c cap', u = .slice (some ⟨c, o, none⟩) len cap' ∧ k.blk b = some c ∧ len ≤ cap' ∧ ((cap < capX ∧ cap' = cap) ∨ ∃ sz arr e fr, cap = capX + sz ∧ k.w.heap[c]? = some (.cells arr e fr) ∧ o + cap' * sz = arr.size) := by
  cases h with
  | ms h1 h2 h3 => exact ⟨_, _, rfl, h1, h2, .inl ⟨h3, rfl⟩⟩
  | mv h1 h2 h3 h4 => exact ⟨_, _, rfl, h1, h2, .inr ⟨_, _, _, _, rfl, h3, h4⟩⟩
def RelL (k : K) (cs : List A) (us : List Value) : Prop := cs.length = us.length ∧ ∀ (j : Nat) (a : A) (u : Value), cs[j]? = some a → us[j]? = some u → Rel k a u

theorem RelL.nil (k : K) : RelL k [] [] := ⟨rfl, fun j a u h => by simp at h⟩
theorem RelL.cons {k : K} {a : A} {u : Value} {cs : List A} {us : List Value} (h : Rel k a u) (hr : RelL k cs us) : RelL k (a :: cs) (u :: us) :=
  ⟨by simp [hr.1], fun j x y hx hy => by
    cases j with
    | zero => simp at hx hy; subst hx; subst hy; exact h
    | succ j => simp at hx hy; exact hr.2 j x y hx hy⟩
theorem RelL.inv_cons {k : K} {a : A} {cs : List A} {us : List Value} (h : RelL k (a :: cs) us) : ∃ u us', us = u :: us' ∧ Rel k a u ∧ RelL k cs us' := by
  obtain ⟨hl, hr⟩ := h
  match us, hl with
  | u :: us', hl => exact ⟨u, us', rfl, hr 0 a u rfl rfl, by simpa using hl, fun j x y hx hy => hr (j + 1) x y (by simpa using hx) (by simpa using hy)⟩
theorem RelL.inv_nil {k : K} {us : List Value} (h : RelL k [] us) : us = [] := by
  have := h.1; simp at this; exact List.eq_nil_of_length_eq_zero this.symm
theorem RelL.append {k : K} {cs ds : List A} {us vs : List Value} (h : RelL k cs us) (h' : RelL k ds vs) : RelL k (cs ++ ds) (us ++ vs) := by
  induction cs generalizing us with
  | nil => rw [h.inv_nil]; exact h'
  | cons a cs ih =>
    obtain ⟨u, us', rfl, h1, h2⟩ := h.inv_cons
    exact RelL.cons h1 (ih h2)
theorem RelL.get {k : K} {cs : List A} {us : List Value} (h : RelL k cs us) {j : Nat} {a : A} (hj : cs[j]? = some a) : ∃ u, us[j]? = some u ∧ Rel k a u := by
  have hlt : j < cs.length := by
    rcases Nat.lt_or_ge j cs.length with h' | h'
    · exact h'
    · rw [List.getElem?_eq_none h'] at hj; cases hj
  have hlt' : j < us.length := by rw [← h.1]; exact hlt
  exact ⟨us[j], List.getElem?_eq_getElem hlt', h.2 j a _ hj (List.getElem?_eq_getElem hlt')⟩
theorem RelL.take {k : K} {cs : List A} {us : List Value} (h : RelL k cs us) (n : Nat) : RelL k (cs.take n) (us.take n) := by
  refine ⟨by simp [h.1], fun j a u ha hu => ?_⟩
  rw [List.getElem?_take] at ha hu
  split at ha
  · rename_i hj; rw [if_pos hj] at hu; exact h.2 j a u ha hu
  · cases ha
theorem RelL.drop {k : K} {cs : List A} {us : List Value} (h : RelL k cs us) (n : Nat) : RelL k (cs.drop n) (us.drop n) := by
  refine ⟨by simp [h.1], fun j a u ha hu => ?_⟩
  rw [List.getElem?_drop] at ha hu
  exact h.2 _ a u ha hu
theorem RelL.set {k : K} {cs : List A} {us : List Value} (h : RelL k cs us) {a : A} {u : Value} (ha : Rel k a u) (i : Nat) : RelL k (cs.set i a) (us.set i u) := by
  refine ⟨by simp [h.1], fun j x y hx hy => ?_⟩
  rw [List.getElem?_set] at hx hy
  have hl := h.1
  by_cases hij : i = j
  · rw [if_pos hij] at hx hy
    split at hx
    · rename_i hlt
      rw [if_pos (by omega)] at hy
      cases hx; cases hy; exact ha
    · cases hx
  · rw [if_neg hij] at hx hy
    exact h.2 j x y hx hy

/-- what is known of a world stays known (what is not known of it may become known) -/
structure K.le0 (k k' : K) : Prop where
  base : k'.base = k.base
  blk : ∀ b c, k.blk b = some c → k'.blk b = some c
  frz : ∀ c n, k.frz c = some n → ∃ n', n ≤ n' ∧ k'.frz c = some n'
  cell : ∀ c n i, k.frz c = some n → i < n → k'.w.cell? ⟨c, i, none⟩ = k.w.cell? ⟨c, i, none⟩
  own : ∀ id c, k.own id = some c → k'.own id = some c
  live : ∀ id c, k.own id = some c → k'.live id = true → k.live id = true ∧ k'.frz c = k.frz c
  noown : ∀ c n, k.frz c = some n → (∀ id, k.own id ≠ some c) → ∀ id, k'.own id ≠ some c
  shape : ∀ (c : Nat) (cs : Array Value) (e : TypeId) (fr : Nat × Nat), k.w.heap[c]? = some (.cells cs e fr) → ∃ cs' fr', k'.w.heap[c]? = some (.cells cs' e fr') ∧ cs'.size = cs.size

/-- a block that nobody knows -/
def K.unk (k : K) (c : Nat) (o : Obj) : Prop := k.w.heap[c]? = some o ∧ (∀ b, k.blk b ≠ some c) ∧ k.frz c = none
/-- what is known of a world stays known, and a block that nobody knows stays as it is -/
structure K.le (k k' : K) : Prop extends toLe0 : K.le0 k k' where
  unk : ∀ c o, k.unk c o → k'.unk c o
  same : ∀ c n, k.frz c = some n → (∀ id, k.own id ≠ some c) → k'.frz c = some n
instance {k k' : K} : Coe (K.le k k') (K.le0 k k') := ⟨fun h => h.toLe0⟩

theorem K.le0.refl (k : K) : k.le0 k :=
  ⟨rfl, fun _ _ h => h, fun _ n h => ⟨n, Nat.le_refl _, h⟩, fun _ _ _ _ _ => rfl, fun _ _ h => h, fun _ _ _ h => ⟨h, rfl⟩, fun _ _ _ h => h, fun _ cs _ fr h => ⟨cs, fr, h, rfl⟩⟩
theorem K.le0.trans {a b c : K} (h : a.le0 b) (g : b.le0 c) : a.le0 c := by
  refine ⟨g.base.trans h.base, fun x y e => g.blk _ _ (h.blk _ _ e), fun x n e => ?_, fun x n i e hi => ?_, fun x y e => g.own _ _ (h.own _ _ e), fun id x e l => ?_, fun x n e ho => ?_, fun x cs e fr hh => ?_⟩
  · obtain ⟨n', h1, h2⟩ := h.frz _ _ e
    obtain ⟨n'', h3, h4⟩ := g.frz _ _ h2
    exact ⟨n'', Nat.le_trans h1 h3, h4⟩
  · obtain ⟨n', h1, h2⟩ := h.frz _ _ e
    rw [g.cell _ _ i h2 (Nat.lt_of_lt_of_le hi h1), h.cell _ _ i e hi]
  · obtain ⟨l1, f1⟩ := g.live _ _ (h.own _ _ e) l
    obtain ⟨l2, f2⟩ := h.live _ _ e l1
    exact ⟨l2, f1.trans f2⟩
  · obtain ⟨n', _, h2⟩ := h.frz _ _ e
    exact g.noown _ _ h2 (h.noown _ _ e ho)
  · obtain ⟨cs', fr', h3, h4⟩ := h.shape _ _ _ _ hh
    obtain ⟨cs'', fr'', h5, h6⟩ := g.shape _ _ _ _ h3
    exact ⟨cs'', fr'', h5, h6.trans h4⟩
theorem K.le.refl (k : K) : k.le k := ⟨K.le0.refl k, fun _ _ h => h, fun _ _ h _ => h⟩
theorem K.le.trans {a b c : K} (h : a.le b) (g : b.le c) : a.le c := ⟨h.toLe0.trans g.toLe0, fun x o hx => g.unk x o (h.unk x o hx), fun x n hf ho => g.same x n (h.same x n hf ho) (h.noown x n hf ho)⟩

theorem ApRel.mono0 {k k' : K} (h : k.le0 k') {c i m sz cap n : Nat} {ap : Ap} (hf : k.frz c = some n) (hr : ApRel k c i m sz cap ap) : ApRel k' c i m sz cap ap := by
  cases ap with
  | no => trivial
  | ex => exact ⟨hr.1, by rw [h.base]; exact hr.2.1, h.noown c n hf hr.2.2⟩
  | gr id =>
    refine ⟨h.own _ _ hr.1, fun hl => ?_⟩
    obtain ⟨l, f⟩ := h.live _ _ hr.1 hl
    refine (hr.2 l).imp (fun x => x) ?_
    rintro ⟨h1, cs, e, fr, hh, hs⟩
    obtain ⟨cs', fr', h3, h4⟩ := h.shape _ _ _ _ hh
    exact ⟨f.trans h1, cs', e, fr', h3, h4.trans hs⟩

theorem ApRel.mono {k k' : K} (h : k.le k') {c i m sz cap n : Nat} {ap : Ap} (hf : k.frz c = some n) (hr : ApRel k c i m sz cap ap) : ApRel k' c i m sz cap ap := ApRel.mono0 h.toLe0 hf hr
theorem spRel.mono0 {k k' : K} (h : k.le0 k') {c : Nat} {ap : Ap} (hr : spRel k c ap) : spRel k' c ap := by
  cases ap with
  | gr id => exact h.own _ _ hr
  | no => trivial
  | ex => trivial

theorem spRel.mono {k k' : K} (h : k.le k') {c : Nat} {ap : Ap} (hr : spRel k c ap) : spRel k' c ap := spRel.mono0 h.toLe0 hr
theorem lt_of_get {α : Type} {l : List α} {j : Nat} {a : α} (h : l[j]? = some a) : j < l.length := by
  rcases Nat.lt_or_ge j l.length with h' | h'
  · exact h'
  · rw [List.getElem?_eq_none h'] at h; cases h

theorem Rel.mono0 {k k' : K} (h : k.le0 k') {a : A} {v : Value} (hr : Rel k a v) : Rel k' a v := by
  induction hr with
  | v hs => exact .v hs
  | ptr hb => exact .ptr (h.blk _ _ hb)
  | sp u hf hl hc hr hs ih =>
    obtain ⟨n', h1, h2⟩ := h.frz _ _ hf
    exact .sp u h2 (by omega) (fun j a ha => by rw [h.cell _ _ _ hf (by have := lt_of_get ha; omega)]; exact hc j a ha) ih (hs.mono0 h)
  | sl u hf hl hc hr hz hm hcap hap ih =>
    obtain ⟨n', h1, h2⟩ := h.frz _ _ hf
    exact .sl u h2 (by omega) (fun j a ha => by rw [h.cell _ _ _ hf (by have := lt_of_get ha; omega)]; exact hc j a ha) ih hz hm hcap (hap.mono0 h hf)
  | sl0 hz => exact .sl0 hz
  | ms hb hl hx => exact .ms (h.blk _ _ hb) hl hx
  | mv hb hl hh hs =>
    obtain ⟨arr', fr', h1, h2⟩ := h.shape _ _ _ _ hh
    exact .mv (h.blk _ _ hb) hl h1 (hs.trans h2.symm)
  | mp hb => exact .mp (h.blk _ _ hb)
  | fn h1 h2 _ _ ih1 ih2 => exact .fn h1 h2 ih1 ih2
  | ifc _ ih => exact .ifc ih
  | agg h1 _ ih => exact .agg h1 ih
  | tup h1 _ ih => exact .tup h1 ih
  | raw ho hc hl hm =>
    obtain ⟨m, hm⟩ := hm
    obtain ⟨m', _, hm'⟩ := h.frz _ _ hm
    refine .raw (h.own _ _ ho) hc (fun hl' => ?_) ⟨m', hm'⟩
    obtain ⟨l, f⟩ := h.live _ _ ho hl'
    obtain ⟨h1, cs, e, fr, h2, h3⟩ := hl l
    obtain ⟨cs', fr', h4, h5⟩ := h.shape _ _ _ _ h2
    exact ⟨f.trans h1, cs', e, fr', h4, h5.trans h3⟩
  | junk => exact .junk
theorem Rel.mono {k k' : K} (h : k.le k') {a : A} {v : Value} (hr : Rel k a v) : Rel k' a v := Rel.mono0 h.toLe0 hr
theorem RelL.mono0 {k k' : K} (h : k.le0 k') {cs : List A} {us : List Value} (hr : RelL k cs us) : RelL k' cs us :=
  ⟨hr.1, fun j a u ha hu => (hr.2 j a u ha hu).mono0 h⟩

theorem RelL.mono {k k' : K} (h : k.le k') {cs : List A} {us : List Value} (hr : RelL k cs us) : RelL k' cs us := RelL.mono0 h.toLe0 hr
/-- the map's entries -/
def EsRel (k : K) (es : List (Value × A × Nat)) (fs : List MapEntry) : Prop :=
  es.length = fs.length ∧ ∀ (j : Nat) (e : Value × A × Nat) (f : MapEntry), es[j]? = some e → fs[j]? = some f → f.key = e.1 ∧ f.born = e.2.2 ∧ Rel k e.2.1 f.val
theorem EsRel.mono0 {k k' : K} (h : k.le0 k') {es : List (Value × A × Nat)} {fs : List MapEntry} (hr : EsRel k es fs) : EsRel k' es fs :=
  ⟨hr.1, fun j e f he hf => let ⟨a, b, c⟩ := hr.2 j e f he hf; ⟨a, b, c.mono0 h⟩⟩

theorem EsRel.mono {k k' : K} (h : k.le k') {es : List (Value × A × Nat)} {fs : List MapEntry} (hr : EsRel k es fs) : EsRel k' es fs := EsRel.mono0 h.toLe0 hr
def BlkRel (k : K) : Blk → Obj → Prop
  | .cells cs e, o => ∃ (us ws : List Value) (e' : TypeId), o = .cells (us ++ ws).toArray e' (0, 0) ∧ (e < offX → e' = e ∧ ws = []) ∧ RelL k cs us
  | .siter s pos, o => o = .stringIter s pos
  | .map es clock, o => ∃ fs : List MapEntry, o = .map fs.toArray clock ∧ EsRel k es fs
  | .miter m since seen clock, o => ∃ c, k.blk m = some c ∧ o = .mapIter (some c) since seen.toArray clock
theorem BlkRel.of {k : K} {cs : List A} {us : List Value} {e : TypeId} (h : RelL k cs us) : BlkRel k (.cells cs e) (.cells us.toArray e (0, 0)) := ⟨us, [], e, by rw [List.append_nil], fun _ => ⟨rfl, rfl⟩, h⟩
theorem BlkRel.mono0 {k k' : K} (h : k.le0 k') {b : Blk} {o : Obj} (hr : BlkRel k b o) : BlkRel k' b o := by
  cases b with
  | cells cs e => obtain ⟨us, ws, e', h1, h2, h3⟩ := hr; exact ⟨us, ws, e', h1, h2, h3.mono0 h⟩
  | siter s pos => exact hr
  | map es clock => obtain ⟨fs, h1, h2⟩ := hr; exact ⟨fs, h1, h2.mono0 h⟩
  | miter m since seen clock => obtain ⟨c, h1, h2⟩ := hr; exact ⟨c, h.blk _ _ h1, h2⟩

theorem BlkRel.mono {k k' : K} (h : k.le k') {b : Blk} {o : Obj} (hr : BlkRel k b o) : BlkRel k' b o := BlkRel.mono0 h.toLe0 hr
/-- the machine's state stands for the world -/
structure Inv (w0 : World) (σ : St) (k : K) : Prop where
  base : k.base = w0.heap.size
  below : Below w0.heap.size w0 k.w
  blk : ∀ b x, σ.blks.get b = some x → ∃ c o, k.blk b = some c ∧ w0.heap.size ≤ c ∧ k.frz c = none ∧ k.w.heap[c]? = some o ∧ BlkRel k x o
  next : ∀ b, σ.next ≤ b → k.blk b = none
  dom : ∀ b c, k.blk b = some c → c < k.w.heap.size
  inj : ∀ b b' c x x', σ.blks.get b = some x → σ.blks.get b' = some x' → k.blk b = some c → k.blk b' = some c → b = b'
  frz : ∀ c n, k.frz c = some n → ∃ cs e fr, k.w.heap[c]? = some (.cells cs e fr) ∧ n ≤ cs.size
  tok : ∀ id e, σ.toks.get id = some e → k.live id = true ∧ ∃ c n cs lo hi, k.own id = some c ∧ w0.heap.size ≤ c ∧ k.frz c = some n ∧ k.w.heap[c]? = some (.cells cs e (lo, hi)) ∧ (lo = hi ∨ hi ≤ n)
  tnext : ∀ id, σ.nextT ≤ id → k.own id = none
  odom : ∀ id c, k.own id = some c → ∃ n, k.frz c = some n
  tinj : ∀ id id' e e' c, σ.toks.get id = some e → σ.toks.get id' = some e' → k.own id = some c → k.own id' = some c → id = id'
  liv : ∀ id c, k.own id = some c → k.live id = true → ∃ e, σ.toks.get id = some e

end Go.DM
namespace Go.DM
open Go Go.RowKit

theorem lt_of_heap {w : World} {c : Nat} {o : Obj} (h : w.heap[c]? = some o) : c < w.heap.size := (Array.getElem?_eq_some_iff.1 h).1

theorem heap_alloc (w : World) (o : Obj) (c : Nat) : (w.alloc o).heap[c]? = if c = w.heap.size then some o else w.heap[c]? := by
  show (w.heap.push o)[c]? = _
  rw [Array.getElem?_push]
theorem heap_alloc_ne {w : World} {o : Obj} {c : Nat} (h : c < w.heap.size) : (w.alloc o).heap[c]? = w.heap[c]? := by
  rw [heap_alloc, if_neg (by omega)]
theorem heap_alloc_same (w : World) (o : Obj) : (w.alloc o).heap[w.heap.size]? = some o := by
  rw [heap_alloc, if_pos rfl]
theorem shape_alloc (w : World) (o : Obj) : ∀ (c : Nat) (cs : Array Value) (e : TypeId) (fr : Nat × Nat), w.heap[c]? = some (.cells cs e fr) → ∃ cs' fr', (w.alloc o).heap[c]? = some (.cells cs' e fr') ∧ cs'.size = cs.size :=
  fun _ cs _ fr h => ⟨cs, fr, (heap_alloc_ne (lt_of_heap h)).trans h, rfl⟩
theorem cell_of_heap {w w' : World} {c i : Nat} (h : w'.heap[c]? = w.heap[c]?) : w'.cell? ⟨c, i, none⟩ = w.cell? ⟨c, i, none⟩ := World.cell?_of_block (a := ⟨c, i, none⟩) h
theorem cell_get {w : World} {c i : Nat} {cs : Array Value} {e : TypeId} {fr : Nat × Nat} (h : w.heap[c]? = some (.cells cs e fr)) : w.cell? ⟨c, i, none⟩ = cs[i]? := by
  simp [World.cell?, h]
theorem frozen_get {w : World} {c i : Nat} {cs : Array Value} {e : TypeId} {lo hi : Nat} (h : w.heap[c]? = some (.cells cs e (lo, hi))) : w.frozen? ⟨c, i, none⟩ = (decide (lo ≤ i) && decide (i < hi)) := by
  simp [World.frozen?, h]

section
variable {w0 : World} {σ : St} {k : K}

theorem Inv.frz_lt (h : Inv w0 σ k) {c n : Nat} (hf : k.frz c = some n) : c < k.w.heap.size := by
  obtain ⟨cs, e, fr, hh, _⟩ := h.frz c n hf
  exact lt_of_heap hh
theorem Inv.own_lt (h : Inv w0 σ k) {id c : Nat} (ho : k.own id = some c) : c < k.w.heap.size := by
  obtain ⟨n, hf⟩ := h.odom id c ho
  exact h.frz_lt hf
theorem Inv.frz_ne (h : Inv w0 σ k) {b c n : Nat} {x : Blk} (hx : σ.blks.get b = some x) (hb : k.blk b = some c) (hf : k.frz c = some n) : False := by
  obtain ⟨c', o, h1, _, h2, _⟩ := h.blk b x hx
  rw [hb] at h1; cases h1
  rw [hf] at h2; cases h2

/-- the world with another one in its place -/
def K.wd (k : K) (w : World) : K := { k with w := w }

/-- a draw -/
theorem K.le_drew (k : K) : k.le (k.wd k.w.drew) :=
  ⟨⟨rfl, fun _ _ h => h, fun _ n h => ⟨n, Nat.le_refl _, h⟩, fun _ _ _ _ _ => rfl, fun _ _ h => h, fun _ _ _ h => ⟨h, rfl⟩, fun _ _ _ h => h, fun _ cs _ fr h => ⟨cs, fr, h, rfl⟩⟩, fun _ _ h => h, fun _ _ h _ => h⟩
theorem Inv.drew (h : Inv w0 σ k) : Inv w0 σ (k.wd k.w.drew) ∧ k.le (k.wd k.w.drew) :=
  ⟨⟨h.base, h.below.drew, fun b x hx => by
      obtain ⟨c, o, h1, h2, h3, h4, h5⟩ := h.blk b x hx
      exact ⟨c, o, h1, h2, h3, h4, h5.mono k.le_drew⟩,
    h.next, h.dom, h.inj, h.frz, h.tok, h.tnext, h.odom, h.tinj, h.liv⟩, k.le_drew⟩

/-- a world that differs in new blocks alone, and in one block that is no frozen one -/
theorem K.le_of (h : Inv w0 σ k) (k' : K) (h0 : k'.base = k.base) (hb : ∀ b c, k.blk b = some c → k'.blk b = some c) (hf : ∀ c n, k.frz c = some n → k'.frz c = some n)
    (ho : ∀ id c, k.own id = some c → k'.own id = some c) (hl : ∀ id c, k.own id = some c → k'.live id = true → k.live id = true)
    (hno : ∀ id c, k'.own id = some c → (∃ n, k.frz c = some n) → ∃ id', k.own id' = some c)
    (hw : ∀ c n, k.frz c = some n → k'.w.heap[c]? = k.w.heap[c]?) (hu : ∀ c o, k.unk c o → k'.unk c o) (hsh : ∀ (c : Nat) (cs : Array Value) (e : TypeId) (fr : Nat × Nat), k.w.heap[c]? = some (.cells cs e fr) → ∃ cs' fr', k'.w.heap[c]? = some (.cells cs' e fr') ∧ cs'.size = cs.size) : k.le k' := by
  refine ⟨?_, hu, fun c n e _ => hf c n e⟩
  refine ⟨h0, hb, fun c n e => ⟨n, Nat.le_refl _, hf c n e⟩, fun c n i e hi => cell_of_heap (hw c n e), ho, fun id c e l => ⟨hl id c e l, ?_⟩, fun c n e hn id hid => ?_, hsh⟩
  · obtain ⟨n, hn⟩ := h.odom id c e
    rw [hf c n hn, hn]
  · obtain ⟨id', h'⟩ := hno id c hid ⟨n, e⟩
    exact hn id' h'

/-- a new block of the machine's own -/
def K.push (k : K) (b : Nat) (o : Obj) : K := { k with w := k.w.alloc o, blk := fun x => if x = b then some k.w.heap.size else k.blk x }
theorem Inv.push (h : Inv w0 σ k) {x : Blk} {o : Obj} (hx : BlkRel k x o) :
    Inv w0 (σ.push x) (k.push σ.next o) ∧ k.le (k.push σ.next o) ∧ (k.push σ.next o).blk σ.next = some k.w.heap.size := by
  have hle : k.le (k.push σ.next o) := by
    refine K.le_of h _ rfl (fun b c hb => ?_) (fun _ _ h => h) (fun _ _ h => h) (fun _ _ _ h => h) (fun id c h _ => ⟨id, h⟩) (fun c n hf => heap_alloc_ne (h.frz_lt hf)) (fun c o' hu => ?_) (shape_alloc _ _)
    rotate_left
    · have hlt := lt_of_heap hu.1
      refine ⟨(heap_alloc_ne hlt).trans hu.1, fun b hb => ?_, hu.2.2⟩
      simp only [K.push] at hb
      split at hb
      · cases hb; exact Nat.lt_irrefl _ hlt
      · exact hu.2.1 b hb
    have : b ≠ σ.next := by
      rintro rfl
      rw [h.next _ (Nat.le_refl _)] at hb; cases hb
    simp only [K.push, if_neg this]; exact hb
  have hfs : k.frz k.w.heap.size = none := by
    cases hf : k.frz k.w.heap.size with
    | none => rfl
    | some n => exact absurd (h.frz_lt hf) (Nat.lt_irrefl _)
  refine ⟨⟨h.base, h.below.alloc h.below.size _, fun b y hy => ?_, fun b hb => ?_, fun b c hb => ?_, fun b b' c y y' hy hy' hb hb' => ?_, fun c n hf => ?_, fun id e ht => ?_, h.tnext, h.odom, h.tinj, h.liv⟩, hle, ?_⟩
  · simp only [St.push, Tr.get_set] at hy
    by_cases hbn : b = σ.next
    · rw [if_pos hbn] at hy
      cases hy
      refine ⟨k.w.heap.size, o, by simp [K.push, hbn], h.below.size, hfs, heap_alloc_same _ _, hx.mono hle⟩
    · rw [if_neg hbn] at hy
      obtain ⟨c, o', h1, h2, h3, h4, h5⟩ := h.blk b y hy
      exact ⟨c, o', by simp [K.push, hbn, h1], h2, h3, (heap_alloc_ne (h.dom b c h1)).trans h4, h5.mono hle⟩
  · simp only [St.push] at hb
    simp only [K.push, if_neg (show b ≠ σ.next by omega)]
    exact h.next b (by omega)
  · simp only [K.push] at hb ⊢
    rw [World.size_alloc]
    split at hb
    · cases hb; omega
    · have := h.dom b c hb; omega
  · simp only [K.push] at hb hb'
    split at hb <;> split at hb'
    · omega
    · cases hb; exact absurd (h.dom b' _ hb') (Nat.lt_irrefl _)
    · cases hb'; exact absurd (h.dom b _ hb) (Nat.lt_irrefl _)
    · rename_i a1 a2
      simp only [St.push, Tr.get_set, if_neg a1] at hy
      simp only [St.push, Tr.get_set, if_neg a2] at hy'
      exact h.inj b b' c y y' hy hy' hb hb'
  · obtain ⟨cs, e, fr, hh, hn⟩ := h.frz c n hf
    exact ⟨cs, e, fr, (heap_alloc_ne (lt_of_heap hh)).trans hh, hn⟩
  · obtain ⟨hl, c, n, cs, lo, hi, h1, h2, h3, h4, h5⟩ := h.tok id e ht
    exact ⟨hl, c, n, cs, lo, hi, h1, h2, h3, (heap_alloc_ne (lt_of_heap h4)).trans h4, h5⟩
  · simp [K.push]

/-- a block that nobody knew becomes the machine's own -/
def K.adopt (k : K) (b c : Nat) : K := { k with blk := fun x => if x = b then some c else k.blk x }
theorem Inv.adopt (h : Inv w0 σ k) {x : Blk} {o : Obj} {c : Nat} (hc : k.unk c o) (hB : w0.heap.size ≤ c) (hx : BlkRel k x o) :
    Inv w0 (σ.push x) (k.adopt σ.next c) ∧ K.le0 k (k.adopt σ.next c) ∧ (k.adopt σ.next c).blk σ.next = some c ∧ ∀ c' o', k.unk c' o' → c' ≠ c → (k.adopt σ.next c).unk c' o' := by
  have hle : K.le0 k (k.adopt σ.next c) := by
    refine ⟨rfl, fun b c' hb => ?_, fun _ n h => ⟨n, Nat.le_refl _, h⟩, fun _ _ _ _ _ => rfl, fun _ _ h => h, fun _ _ _ h => ⟨h, rfl⟩, fun _ _ _ h => h, fun _ cs _ fr h => ⟨cs, fr, h, rfl⟩⟩
    have : b ≠ σ.next := by
      rintro rfl
      rw [h.next _ (Nat.le_refl _)] at hb; cases hb
    simp only [K.adopt, if_neg this]; exact hb
  refine ⟨⟨h.base, h.below, fun b y hy => ?_, fun b hb => ?_, fun b c' hb => ?_, fun b b' c' y y' hy hy' hb hb' => ?_, h.frz, h.tok, h.tnext, h.odom, h.tinj, h.liv⟩, hle, by simp [K.adopt], fun c' o' hu hne => ⟨hu.1, fun b hb => ?_, hu.2.2⟩⟩
  · simp only [St.push, Tr.get_set] at hy
    by_cases hbn : b = σ.next
    · rw [if_pos hbn] at hy
      cases hy
      exact ⟨c, o, by simp [K.adopt, hbn], hB, hc.2.2, hc.1, hx.mono0 hle⟩
    · rw [if_neg hbn] at hy
      obtain ⟨c', o', h1, h2, h3, h4, h5⟩ := h.blk b y hy
      exact ⟨c', o', by simp [K.adopt, hbn, h1], h2, h3, h4, h5.mono0 hle⟩
  · simp only [St.push] at hb
    simp only [K.adopt, if_neg (show b ≠ σ.next by omega)]
    exact h.next b (by omega)
  · simp only [K.adopt] at hb
    split at hb
    · cases hb; exact lt_of_heap hc.1
    · exact h.dom b c' hb
  · simp only [K.adopt] at hb hb'
    split at hb <;> split at hb'
    · omega
    · cases hb; exact absurd hb' (hc.2.1 b')
    · cases hb'; exact absurd hb (hc.2.1 b)
    · rename_i a1 a2
      simp only [St.push, Tr.get_set, if_neg a1] at hy
      simp only [St.push, Tr.get_set, if_neg a2] at hy'
      exact h.inj b b' c' y y' hy hy' hb hb'
  · simp only [K.adopt] at hb
    split at hb
    · cases hb; exact hne rfl
    · exact hu.2.1 b hb

/-- a block that nobody knew becomes one that does not change any more up to nothing, and whose room has an owner -/
def K.adoptTok (k : K) (c id : Nat) : K :=
  { base := k.base, w := k.w, blk := k.blk, frz := fun x => if x = c then some 0 else k.frz x, own := fun x => if x = id then some c else k.own x, live := fun x => if x = id then true else k.live x }
theorem Inv.adoptTok (h : Inv w0 σ k) {c : Nat} {us : Array Value} {e : TypeId} (hc : k.unk c (.cells us e (0, 0))) (hB : w0.heap.size ≤ c) :
    Inv w0 (σ.tok e) (k.adoptTok c σ.nextT) ∧ K.le0 k (k.adoptTok c σ.nextT) ∧ (∀ c' o', k.unk c' o' → c' ≠ c → (k.adoptTok c σ.nextT).unk c' o') ∧ ∀ c' m, k.frz c' = some m → (k.adoptTok c σ.nextT).frz c' = some m := by
  have hne : ∀ c' m, k.frz c' = some m → c' ≠ c := fun c' m hf e => by rw [e, hc.2.2] at hf; cases hf
  have hid : ∀ id c', k.own id = some c' → id ≠ σ.nextT := by
    rintro id c' ho rfl
    rw [h.tnext _ (Nat.le_refl _)] at ho; cases ho
  have hno : ∀ id, k.own id ≠ some c := fun id ho => by
    obtain ⟨m, hm⟩ := h.odom id c ho
    exact hne c m hm rfl
  have hfz : ∀ c' m, k.frz c' = some m → (k.adoptTok c σ.nextT).frz c' = some m := fun c' m hf => by simp only [K.adoptTok, if_neg (hne c' m hf)]; exact hf
  have hle : K.le0 k (k.adoptTok c σ.nextT) := by
    refine ⟨rfl, fun _ _ h => h, fun c' m hf => ⟨m, Nat.le_refl _, hfz c' m hf⟩, fun _ _ _ _ _ => rfl, fun id c' ho => by simp only [K.adoptTok, if_neg (hid id c' ho)]; exact ho, fun id c' ho hl => ?_, fun c' m hf hn id ho => ?_, fun _ cs _ fr h => ⟨cs, fr, h, rfl⟩⟩
    · simp only [K.adoptTok, if_neg (hid id c' ho)] at hl
      obtain ⟨m, hm⟩ := h.odom id c' ho
      exact ⟨hl, by rw [hfz c' m hm, hm]⟩
    · simp only [K.adoptTok] at ho
      split at ho
      · cases ho; exact hne _ m hf rfl
      · exact hn id ho
  refine ⟨⟨h.base, h.below, fun b y hy => ?_, h.next, h.dom, h.inj, fun c' m hf => ?_, fun id e' ht => ?_, fun id hid' => ?_, fun id c' ho => ?_, fun id id' e1 e2 c' h1 h2 o1 o2 => ?_, fun id c' ho hl => ?_⟩, hle, fun c' o' hu hcc => ⟨hu.1, hu.2.1, by simp only [K.adoptTok, if_neg hcc]; exact hu.2.2⟩, hfz⟩
  · obtain ⟨c', o', h1, h2, h3, h4, h5⟩ := h.blk b y hy
    exact ⟨c', o', h1, h2, by simp only [K.adoptTok, if_neg (show ¬ c' = c from fun e' => hc.2.1 b (by rw [← e']; exact h1))]; exact h3, h4, h5.mono0 hle⟩
  · simp only [K.adoptTok] at hf
    split at hf
    · rename_i hcc
      cases hf
      exact ⟨us, e, (0, 0), by rw [hcc]; exact hc.1, Nat.zero_le _⟩
    · exact h.frz c' m hf
  · simp only [St.tok, Tr.get_set] at ht
    split at ht
    · rename_i hi
      cases ht
      exact ⟨by simp [K.adoptTok, hi], c, 0, us, 0, 0, by simp [K.adoptTok, hi], hB, by simp [K.adoptTok], hc.1, .inl rfl⟩
    · rename_i hi
      obtain ⟨hl, c', m, cs, lo', hi', h1, h2, h3, h4, h5⟩ := h.tok id e' ht
      exact ⟨by simp only [K.adoptTok, if_neg hi]; exact hl, c', m, cs, lo', hi', by simp only [K.adoptTok, if_neg hi]; exact h1, h2, hfz c' m h3, h4, h5⟩
  · simp only [St.tok] at hid'
    simp only [K.adoptTok, if_neg (show id ≠ σ.nextT by omega)]
    exact h.tnext id (by omega)
  · simp only [K.adoptTok] at ho
    split at ho
    · cases ho; exact ⟨0, by simp [K.adoptTok]⟩
    · obtain ⟨m, hm⟩ := h.odom id c' ho
      exact ⟨m, hfz c' m hm⟩
  · simp only [St.tok, Tr.get_set] at h1 h2
    simp only [K.adoptTok] at o1 o2
    split at o1 <;> split at o2
    · omega
    · cases o1; exact absurd o2 (hno _)
    · cases o2; exact absurd o1 (hno _)
    · rename_i a b
      rw [if_neg a] at h1
      rw [if_neg b] at h2
      exact h.tinj id id' e1 e2 c' h1 h2 o1 o2
  · simp only [St.tok, Tr.get_set]
    by_cases hi : id = σ.nextT
    · exact ⟨e, if_pos hi⟩
    · simp only [K.adoptTok, if_neg hi] at ho hl
      obtain ⟨e', he⟩ := h.liv id c' ho hl
      exact ⟨e', by rw [if_neg hi]; exact he⟩

/-- a block that nobody knows -/
def K.hide (k : K) (o : Obj) : K := { k with w := k.w.alloc o }
theorem Inv.hide (h : Inv w0 σ k) (o : Obj) : Inv w0 σ (k.hide o) ∧ k.le (k.hide o) ∧ (k.hide o).unk k.w.heap.size o := by
  have hle : k.le (k.hide o) :=
    K.le_of h _ rfl (fun _ _ h => h) (fun _ _ h => h) (fun _ _ h => h) (fun _ _ _ h => h) (fun id c h _ => ⟨id, h⟩) (fun c n hf => heap_alloc_ne (h.frz_lt hf)) (fun c o' hu => ⟨(heap_alloc_ne (lt_of_heap hu.1)).trans hu.1, hu.2.1, hu.2.2⟩) (shape_alloc _ _)
  have hfs : k.frz k.w.heap.size = none := by
    cases hf : k.frz k.w.heap.size with
    | none => rfl
    | some n => exact absurd (h.frz_lt hf) (Nat.lt_irrefl _)
  refine ⟨⟨h.base, h.below.alloc h.below.size _, fun b y hy => ?_, h.next, fun b c hb => ?_, h.inj, fun c n hf => ?_, fun id e ht => ?_, h.tnext, h.odom, h.tinj, h.liv⟩, hle, heap_alloc_same _ _, fun b hb => ?_, hfs⟩
  · obtain ⟨c, o', h1, h2, h3, h4, h5⟩ := h.blk b y hy
    exact ⟨c, o', h1, h2, h3, (heap_alloc_ne (h.dom b c h1)).trans h4, h5.mono hle⟩
  · have := h.dom b c hb
    simp only [K.hide, World.size_alloc]; omega
  · obtain ⟨cs, e, fr, hh, hn⟩ := h.frz c n hf
    exact ⟨cs, e, fr, (heap_alloc_ne (lt_of_heap hh)).trans hh, hn⟩
  · obtain ⟨hl, c, n, cs, lo, hi, h1, h2, h3, h4, h5⟩ := h.tok id e ht
    exact ⟨hl, c, n, cs, lo, hi, h1, h2, h3, (heap_alloc_ne (lt_of_heap h4)).trans h4, h5⟩
  · exact absurd (h.dom b _ hb) (Nat.lt_irrefl _)

/-- a new block that does not change any more, without an owner -/
def K.lay (k : K) (o : Obj) (n : Nat) : K := { k with w := k.w.alloc o, frz := fun x => if x = k.w.heap.size then some n else k.frz x }
theorem Inv.lay (h : Inv w0 σ k) {us : Array Value} {e : TypeId} {fr : Nat × Nat} {n : Nat} (hn : n ≤ us.size) :
    Inv w0 σ (k.lay (.cells us e fr) n) ∧ k.le (k.lay (.cells us e fr) n) ∧ (k.lay (.cells us e fr) n).frz k.w.heap.size = some n ∧ ∀ id, (k.lay (.cells us e fr) n).own id ≠ some k.w.heap.size := by
  have hlt : ∀ c m, k.frz c = some m → c ≠ k.w.heap.size := fun c m hf e => by have := h.frz_lt hf; omega
  have hle : k.le (k.lay (.cells us e fr) n) :=
    K.le_of h _ rfl (fun _ _ h => h) (fun c m hf => by simp only [K.lay, if_neg (hlt c m hf)]; exact hf) (fun _ _ h => h) (fun _ _ _ h => h) (fun id c h _ => ⟨id, h⟩) (fun c n hf => heap_alloc_ne (h.frz_lt hf))
      (fun c o hu => by
        have hc := lt_of_heap hu.1
        exact ⟨(heap_alloc_ne hc).trans hu.1, hu.2.1, by simp only [K.lay, if_neg (Nat.ne_of_lt hc)]; exact hu.2.2⟩) (shape_alloc _ _)
  refine ⟨⟨h.base, h.below.alloc h.below.size _, fun b y hy => ?_, h.next, fun b c hb => ?_, h.inj, fun c m hf => ?_, fun id e' ht => ?_, h.tnext, fun id c ho => ?_, h.tinj, h.liv⟩, hle, by simp [K.lay], fun id ho => ?_⟩
  · obtain ⟨c, o', h1, h2, h3, h4, h5⟩ := h.blk b y hy
    have hne : c ≠ k.w.heap.size := by have := lt_of_heap h4; omega
    exact ⟨c, o', h1, h2, by simp only [K.lay, if_neg hne]; exact h3, (heap_alloc_ne (lt_of_heap h4)).trans h4, h5.mono hle⟩
  · have := h.dom b c hb
    simp only [K.lay, World.size_alloc]; omega
  · simp only [K.lay] at hf
    split at hf
    · rename_i hc
      cases hf
      exact ⟨us, e, fr, by rw [hc]; exact heap_alloc_same _ _, hn⟩
    · obtain ⟨cs, e', fr', hh, hn'⟩ := h.frz c m hf
      exact ⟨cs, e', fr', (heap_alloc_ne (lt_of_heap hh)).trans hh, hn'⟩
  · obtain ⟨hl, c, m, cs, lo, hi, h1, h2, h3, h4, h5⟩ := h.tok id e' ht
    exact ⟨hl, c, m, cs, lo, hi, h1, h2, by simp only [K.lay, if_neg (hlt c m h3)]; exact h3, (heap_alloc_ne (lt_of_heap h4)).trans h4, h5⟩
  · obtain ⟨m, hm⟩ := h.odom id c ho
    exact ⟨m, by simp only [K.lay, if_neg (hlt c m hm)]; exact hm⟩
  · obtain ⟨m, hm⟩ := h.odom id _ ho
    exact hlt _ m hm rfl

/-- a new block that does not change any more up to n, and whose room has an owner -/
def K.layTok (k : K) (o : Obj) (n id : Nat) : K :=
  { base := k.base, w := k.w.alloc o, blk := k.blk, frz := fun x => if x = k.w.heap.size then some n else k.frz x, own := fun x => if x = id then some k.w.heap.size else k.own x, live := fun x => if x = id then true else k.live x }
theorem Inv.layTok (h : Inv w0 σ k) {us : Array Value} {e : TypeId} {lo hi n : Nat} (hn : n ≤ us.size) (hr : lo = hi ∨ hi ≤ n) :
    Inv w0 (σ.tok e) (k.layTok (.cells us e (lo, hi)) n σ.nextT) ∧ k.le (k.layTok (.cells us e (lo, hi)) n σ.nextT) := by
  have hlt : ∀ c m, k.frz c = some m → c ≠ k.w.heap.size := fun c m hf e => by have := h.frz_lt hf; omega
  have hid : ∀ id c, k.own id = some c → id ≠ σ.nextT := by
    rintro id c ho rfl
    rw [h.tnext _ (Nat.le_refl _)] at ho; cases ho
  have hle : k.le (k.layTok (.cells us e (lo, hi)) n σ.nextT) := by
    refine K.le_of h _ rfl (fun _ _ h => h) (fun c m hf => by simp only [K.layTok, if_neg (hlt c m hf)]; exact hf) (fun id c ho => by simp only [K.layTok, if_neg (hid id c ho)]; exact ho)
      (fun id c ho hl => by simp only [K.layTok, if_neg (hid id c ho)] at hl; exact hl) (fun id c ho hx => ?_) (fun c n hf => heap_alloc_ne (h.frz_lt hf))
      (fun c o hu => by
        have hc := lt_of_heap hu.1
        exact ⟨(heap_alloc_ne hc).trans hu.1, hu.2.1, by simp only [K.layTok, if_neg (Nat.ne_of_lt hc)]; exact hu.2.2⟩) (shape_alloc _ _)
    simp only [K.layTok] at ho
    split at ho
    · cases ho
      obtain ⟨m, hm⟩ := hx
      exact absurd rfl (hlt _ m hm)
    · exact ⟨id, ho⟩
  refine ⟨⟨h.base, h.below.alloc h.below.size _, fun b y hy => ?_, h.next, fun b c hb => ?_, h.inj, fun c m hf => ?_, fun id e' ht => ?_, fun id hid' => ?_, fun id c ho => ?_, fun id id' e1 e2 c h1 h2 o1 o2 => ?_, fun id c ho hl => ?_⟩, hle⟩
  · obtain ⟨c, o', h1, h2, h3, h4, h5⟩ := h.blk b y hy
    have hne : c ≠ k.w.heap.size := by have := lt_of_heap h4; omega
    exact ⟨c, o', h1, h2, by simp only [K.layTok, if_neg hne]; exact h3, (heap_alloc_ne (lt_of_heap h4)).trans h4, h5.mono hle⟩
  · have := h.dom b c hb
    simp only [K.layTok, World.size_alloc]; omega
  · simp only [K.layTok] at hf
    split at hf
    · rename_i hc
      cases hf
      exact ⟨us, e, (lo, hi), by rw [hc]; exact heap_alloc_same _ _, hn⟩
    · obtain ⟨cs, e', fr', hh, hn'⟩ := h.frz c m hf
      exact ⟨cs, e', fr', (heap_alloc_ne (lt_of_heap hh)).trans hh, hn'⟩
  · simp only [St.tok, Tr.get_set] at ht
    split at ht
    · rename_i hi
      cases ht
      exact ⟨by simp [K.layTok, hi], k.w.heap.size, n, us, lo, _, by simp [K.layTok, hi], h.below.size, by simp [K.layTok], heap_alloc_same _ _, hr⟩
    · rename_i hi
      obtain ⟨hl, c, m, cs, lo', hi', h1, h2, h3, h4, h5⟩ := h.tok id e' ht
      exact ⟨by simp only [K.layTok, if_neg hi]; exact hl, c, m, cs, lo', hi', by simp only [K.layTok, if_neg hi]; exact h1, h2, by simp only [K.layTok, if_neg (hlt c m h3)]; exact h3, (heap_alloc_ne (lt_of_heap h4)).trans h4, h5⟩
  · simp only [St.tok] at hid'
    simp only [K.layTok, if_neg (show id ≠ σ.nextT by omega)]
    exact h.tnext id (by omega)
  · simp only [K.layTok] at ho ⊢
    split at ho
    · cases ho; exact ⟨n, if_pos rfl⟩
    · obtain ⟨m, hm⟩ := h.odom id c ho
      exact ⟨m, by rw [if_neg (hlt c m hm)]; exact hm⟩
  · simp only [St.tok, Tr.get_set] at h1 h2
    simp only [K.layTok] at o1 o2
    split at o1 <;> split at o2
    · omega
    · cases o1; exact absurd (h.own_lt o2) (Nat.lt_irrefl _)
    · cases o2; exact absurd (h.own_lt o1) (Nat.lt_irrefl _)
    · rename_i a b
      rw [if_neg a] at h1
      rw [if_neg b] at h2
      exact h.tinj id id' e1 e2 c h1 h2 o1 o2
  · simp only [St.tok, Tr.get_set]
    by_cases hi : id = σ.nextT
    · exact ⟨e, if_pos hi⟩
    · simp only [K.layTok, if_neg hi] at ho hl
      obtain ⟨e', he⟩ := h.liv id c ho hl
      exact ⟨e', by rw [if_neg hi]; exact he⟩

/-- a token given up -/
def K.drop (k : K) (id : Nat) : K := { k with live := fun x => if x = id then false else k.live x }
theorem Inv.drop (h : Inv w0 σ k) (id : Nat) : Inv w0 (σ.untok id) (k.drop id) ∧ k.le (k.drop id) := by
  have hle : k.le (k.drop id) := by
    refine K.le_of h _ rfl (fun _ _ h => h) (fun _ _ h => h) (fun _ _ h => h) (fun x c ho hl => ?_) (fun x c h _ => ⟨x, h⟩) (fun _ _ _ => rfl) (fun _ _ h => h) (fun _ cs _ fr h => ⟨cs, fr, h, rfl⟩)
    simp only [K.drop] at hl
    split at hl
    · cases hl
    · exact hl
  refine ⟨⟨h.base, h.below, fun b y hy => ?_, h.next, h.dom, h.inj, h.frz, fun x e' ht => ?_, h.tnext, h.odom, fun x y e1 e2 c h1 h2 o1 o2 => ?_, fun x c ho hl => ?_⟩, hle⟩
  · obtain ⟨c, o', h1, h2, h3, h4, h5⟩ := h.blk b y hy
    exact ⟨c, o', h1, h2, h3, h4, h5.mono hle⟩
  · simp only [St.untok, Tr.get_del] at ht
    split at ht
    · cases ht
    · rename_i hx
      obtain ⟨hl, r⟩ := h.tok x e' ht
      exact ⟨by simp only [K.drop, if_neg hx]; exact hl, r⟩
  · simp only [St.untok, Tr.get_del] at h1 h2
    split at h1
    · cases h1
    · split at h2
      · cases h2
      · exact h.tinj x y e1 e2 c h1 h2 o1 o2
  · simp only [K.drop] at hl
    split at hl
    · cases hl
    · rename_i hx
      obtain ⟨e, he⟩ := h.liv x c ho hl
      exact ⟨e, by simp only [St.untok, Tr.get_del, if_neg hx]; exact he⟩

theorem Inv.inj_put (h : Inv w0 σ k) {b : Nat} {x : Blk} (hx : ∃ y, σ.blks.get b = some y) : ∀ b1 b2 c y1 y2, (σ.put b x).blks.get b1 = some y1 → (σ.put b x).blks.get b2 = some y2 → k.blk b1 = some c → k.blk b2 = some c → b1 = b2 := by
  have up : ∀ b1 y1, (σ.put b x).blks.get b1 = some y1 → ∃ y, σ.blks.get b1 = some y := by
    intro b1 y1 h1
    simp only [St.put, Tr.get_set] at h1
    split at h1
    · rename_i hb; rw [hb]; exact hx
    · exact ⟨_, h1⟩
  intro b1 b2 c y1 y2 h1 h2 h3 h4
  obtain ⟨z1, g1⟩ := up b1 y1 h1
  obtain ⟨z2, g2⟩ := up b2 y2 h2
  exact h.inj b1 b2 c z1 z2 g1 g2 h3 h4
theorem Inv.inj_kill (h : Inv w0 σ k) {b : Nat} : ∀ b1 b2 c y1 y2, (σ.kill b).blks.get b1 = some y1 → (σ.kill b).blks.get b2 = some y2 → k.blk b1 = some c → k.blk b2 = some c → b1 = b2 := by
  have up : ∀ b1 y1, (σ.kill b).blks.get b1 = some y1 → σ.blks.get b1 = some y1 := by
    intro b1 y1 h1
    simp only [St.kill, Tr.get_del] at h1
    split at h1
    · cases h1
    · exact h1
  exact fun b1 b2 c y1 y2 h1 h2 => h.inj b1 b2 c y1 y2 (up _ _ h1) (up _ _ h2)

/-- a block of the machine's own turned: cells -/
theorem Inv.setRow (h : Inv w0 σ k) {b c : Nat} {cs cs' : List A} {e e' : TypeId} {us us' : List Value} (hx : σ.blks.get b = some (.cells cs e)) (hb : k.blk b = some c) (h4 : k.w.heap[c]? = some (.cells us.toArray e' (0, 0))) (hr : BlkRel k (.cells cs' e) (.cells us'.toArray e' (0, 0))) (hsz : us'.length = us.length) :
    Inv w0 (σ.put b (.cells cs' e)) (k.wd (k.w.setRow c us'.toArray)) ∧ k.le (k.wd (k.w.setRow c us'.toArray)) := by
  obtain ⟨c', o, h1, h2, h3, _⟩ := h.blk b _ hx
  rw [hb] at h1; cases h1
  have hne : ∀ x n, k.frz x = some n → x ≠ c := by rintro x n hf rfl; rw [h3] at hf; cases hf
  have hle : k.le (k.wd (k.w.setRow c us'.toArray)) :=
    K.le_of h _ rfl (fun _ _ h => h) (fun _ _ h => h) (fun _ _ h => h) (fun _ _ _ h => h) (fun x c h _ => ⟨x, h⟩) (fun x n hf => setRow_other _ _ _ _ (hne x n hf))
      (fun x o hu => ⟨(setRow_other _ _ _ _ (by rintro rfl; exact hu.2.1 b hb)).trans hu.1, hu.2.1, hu.2.2⟩)
      (fun x cs1 e1 fr1 hh1 => by
        by_cases hxc : x = c
        · subst hxc
          rw [h4] at hh1; cases hh1
          exact ⟨us'.toArray, _, setRow_heap _ _ _ _ _ _ h4, by simpa using hsz⟩
        · exact ⟨cs1, fr1, (setRow_other _ _ _ _ hxc).trans hh1, rfl⟩)
  have hsame : (k.w.setRow c us'.toArray).heap[c]? = some (.cells us'.toArray e' (0, 0)) := setRow_heap _ _ _ _ _ _ h4
  refine ⟨⟨h.base, ?_, fun b' y hy => ?_, h.next, fun b' c' hb' => ?_, h.inj_put ⟨_, hx⟩, fun x n hf => ?_, fun id e1 ht => ?_, h.tnext, h.odom, h.tinj, h.liv⟩, hle⟩
  · exact h.below.trans ⟨rfl, rfl, rfl, by simp [K.wd], fun x hx => setRow_other _ _ _ _ (by omega)⟩
  · simp only [St.put, Tr.get_set] at hy
    split at hy
    · rename_i hbb
      cases hy
      exact ⟨c, _, by rw [hbb]; exact hb, h2, h3, hsame, hr.mono hle⟩
    · rename_i hbb
      obtain ⟨c', o', g1, g2, g3, g4, g5⟩ := h.blk b' y hy
      have : c' ≠ c := by rintro rfl; exact hbb (h.inj b' b _ _ _ hy hx g1 hb)
      exact ⟨c', o', g1, g2, g3, (setRow_other _ _ _ _ this).trans g4, g5.mono hle⟩
  · have := h.dom b' c' hb'
    simp only [K.wd, setRow_size]; exact this
  · obtain ⟨cs1, e1, fr, hh, hn⟩ := h.frz x n hf
    exact ⟨cs1, e1, fr, (setRow_other _ _ _ _ (hne x n hf)).trans hh, hn⟩
  · obtain ⟨hl, x, n, cs1, lo, hi, g1, g2, g3, g4, g5⟩ := h.tok id e1 ht
    exact ⟨hl, x, n, cs1, lo, hi, g1, g2, g3, (setRow_other _ _ _ _ (hne x n g3)).trans g4, g5⟩

theorem Inv.kill (h : Inv w0 σ k) (b : Nat) : Inv w0 (σ.kill b) k := by
  refine ⟨h.base, h.below, fun y x hy => ?_, h.next, h.dom, h.inj_kill, h.frz, h.tok, h.tnext, h.odom, h.tinj, h.liv⟩
  simp only [St.kill, Tr.get_del] at hy
  split at hy
  · cases hy
  · exact h.blk y x hy
/-- a block under a new number -/
theorem Inv.rename (h : Inv w0 σ k) {b c : Nat} {X : Blk} (hx : σ.blks.get b = some X) (hb : k.blk b = some c) {σ' : St} (hg : ∀ y, σ'.blks.get y = if y = σ.next then some X else if y = b then none else σ.blks.get y)
    (hn : σ'.next = σ.next + 1) (ht : σ'.toks = σ.toks) (hnt : σ'.nextT = σ.nextT) : Inv w0 σ' (k.adopt σ.next c) ∧ k.le (k.adopt σ.next c) ∧ (k.adopt σ.next c).blk σ.next = some c := by
  have hbn : ∀ x y, k.blk x = some y → x ≠ σ.next := by
    rintro x y hy rfl
    rw [h.next _ (Nat.le_refl _)] at hy; cases hy
  have hle : k.le (k.adopt σ.next c) := by
    refine ⟨⟨rfl, fun x y hy => ?_, fun _ n h => ⟨n, Nat.le_refl _, h⟩, fun _ _ _ _ _ => rfl, fun _ _ h => h, fun _ _ _ h => ⟨h, rfl⟩, fun _ _ _ h => h, fun _ cs _ fr h => ⟨cs, fr, h, rfl⟩⟩, fun x o hu => ⟨hu.1, fun y hy => ?_, hu.2.2⟩, fun _ _ h _ => h⟩
    · simp only [K.adopt, if_neg (hbn x y hy)]; exact hy
    · simp only [K.adopt] at hy
      split at hy
      · cases hy; exact hu.2.1 b hb
      · exact hu.2.1 y hy
  refine ⟨⟨h.base, h.below, fun y z hy => ?_, fun y hy => ?_, fun y z hy => ?_, fun y y' z u u' hy hy' h1 h2 => ?_, h.frz, fun id e hd => h.tok id e (by rw [← ht]; exact hd), fun id hi => h.tnext id (by rw [← hnt]; exact hi), h.odom,
    fun id id' e e' z h1 h2 => h.tinj id id' e e' z (by rw [← ht]; exact h1) (by rw [← ht]; exact h2), fun id z ho hl => by rw [ht]; exact h.liv id z ho hl⟩, hle, by simp [K.adopt]⟩
  · rw [hg] at hy
    split at hy
    · rename_i hyn
      cases hy
      obtain ⟨c', o, h1, h2, h3, h4, h5⟩ := h.blk b _ hx
      rw [hb] at h1; cases h1
      exact ⟨c, o, by simp [K.adopt, hyn], h2, h3, h4, h5.mono hle⟩
    · rename_i hyn
      split at hy
      · cases hy
      · obtain ⟨c', o, h1, h2, h3, h4, h5⟩ := h.blk y z hy
        exact ⟨c', o, by simp only [K.adopt, if_neg hyn]; exact h1, h2, h3, h4, h5.mono hle⟩
  · rw [hn] at hy
    simp only [K.adopt, if_neg (show y ≠ σ.next by omega)]
    exact h.next y (by omega)
  · simp only [K.adopt] at hy
    split at hy
    · cases hy; exact h.dom b c hb
    · exact h.dom y z hy
  · rw [hg] at hy hy'
    simp only [K.adopt] at h1 h2
    split at h1 <;> split at h2
    · omega
    · rename_i a1 a2
      cases h1
      rw [if_neg a2] at hy'
      split at hy'
      · cases hy'
      · rename_i a3
        exact absurd (h.inj _ _ _ _ _ hy' hx h2 hb) a3
    · rename_i a1 a2
      cases h2
      rw [if_neg a1] at hy
      split at hy
      · cases hy
      · rename_i a3
        exact absurd (h.inj _ _ _ _ _ hy hx h1 hb) a3
    · rename_i a1 a2
      rw [if_neg a1] at hy
      rw [if_neg a2] at hy'
      split at hy
      · cases hy
      · split at hy'
        · cases hy'
        · exact h.inj _ _ _ _ _ hy hy' h1 h2
/-- a block turned, under a new number -/
theorem Inv.regrow (h : Inv w0 σ k) {b c : Nat} {cs cs' : List A} {e e' : TypeId} {us us' : List Value} (hx : σ.blks.get b = some (.cells cs e)) (hb : k.blk b = some c) (h4 : k.w.heap[c]? = some (.cells us.toArray e' (0, 0)))
    (hr : BlkRel k (.cells cs' e) (.cells us'.toArray e' (0, 0))) (hsz : us'.length = us.length) :
    Inv w0 ((σ.kill b).push (.cells cs' e)) ((k.wd (k.w.setRow c us'.toArray)).adopt σ.next c) ∧ k.le ((k.wd (k.w.setRow c us'.toArray)).adopt σ.next c) ∧ ((k.wd (k.w.setRow c us'.toArray)).adopt σ.next c).blk σ.next = some c := by
  obtain ⟨g1, g2⟩ := h.setRow hx hb h4 hr hsz
  obtain ⟨q1, q2, q3⟩ := g1.rename (b := b) (c := c) (X := .cells cs' e) (σ' := (σ.kill b).push (.cells cs' e)) (by simp [St.put, Tr.get_set]) hb (fun y => by
    simp only [St.push, St.kill, St.put, Tr.get_set, Tr.get_del]
    by_cases h1 : y = σ.next
    · simp [h1]
    · simp only [if_neg h1]
      by_cases h2 : y = b
      · simp [h2]
      · simp [h2]) rfl rfl rfl
  exact ⟨q1, g2.trans q2, q3⟩

/-- a block of the machine's own turned: an object -/
def _root_.Go.World.setO (w : World) (r : Nat) (o : Obj) : World := { w with heap := w.heap.setIfInBounds r o }
theorem setO_same {w : World} {r : Nat} {o o' : Obj} (h : w.heap[r]? = some o') : (w.setO r o).heap[r]? = some o := by
  have := lt_of_heap h
  simp [World.setO, this]
theorem setO_other {w : World} {r c : Nat} {o : Obj} (h : c ≠ r) : (w.setO r o).heap[c]? = w.heap[c]? := by
  simp only [World.setO]
  rw [Array.getElem?_setIfInBounds, if_neg (fun e => h e.symm)]
theorem Inv.setObj (h : Inv w0 σ k) {b c : Nat} {x x' : Blk} {o' : Obj} (hx : σ.blks.get b = some x) (hb : k.blk b = some c) (hr : BlkRel k x' o') (hnc : ∀ cs e, x ≠ .cells cs e) :
    Inv w0 (σ.put b x') (k.wd (k.w.setO c o')) ∧ k.le (k.wd (k.w.setO c o')) := by
  obtain ⟨c', o, h1, h2, h3, h4, h6⟩ := h.blk b _ hx
  rw [hb] at h1; cases h1
  have hne : ∀ x n, k.frz x = some n → x ≠ c := by rintro x n hf rfl; rw [h3] at hf; cases hf
  have hle : k.le (k.wd (k.w.setO c o')) :=
    K.le_of h _ rfl (fun _ _ h => h) (fun _ _ h => h) (fun _ _ h => h) (fun _ _ _ h => h) (fun x c h _ => ⟨x, h⟩) (fun x n hf => setO_other (hne x n hf))
      (fun x o hu => ⟨(setO_other (by rintro rfl; exact hu.2.1 b hb)).trans hu.1, hu.2.1, hu.2.2⟩)
      (fun y cs1 e1 fr1 hh1 => by
        by_cases hxc : y = c
        · subst hxc
          rw [h4] at hh1; cases hh1
          cases x with
          | cells cs e => exact absurd rfl (hnc _ _)
          | siter s p => cases h6
          | map es cl => obtain ⟨_, h7, _⟩ := h6; cases h7
          | miter m si se cl => obtain ⟨_, _, h7⟩ := h6; cases h7
        · exact ⟨cs1, fr1, (setO_other hxc).trans hh1, rfl⟩)
  refine ⟨⟨h.base, ?_, fun b' y hy => ?_, h.next, fun b' c' hb' => ?_, h.inj_put ⟨_, hx⟩, fun x n hf => ?_, fun id e' ht => ?_, h.tnext, h.odom, h.tinj, h.liv⟩, hle⟩
  · exact h.below.trans ⟨rfl, rfl, rfl, by simp [K.wd, World.setO], fun x hx => setO_other (by omega)⟩
  · simp only [St.put, Tr.get_set] at hy
    split at hy
    · rename_i hbb
      cases hy
      exact ⟨c, _, by rw [hbb]; exact hb, h2, h3, setO_same h4, hr.mono hle⟩
    · rename_i hbb
      obtain ⟨c', o1, g1, g2, g3, g4, g5⟩ := h.blk b' y hy
      have : c' ≠ c := by rintro rfl; exact hbb (h.inj b' b _ _ _ hy hx g1 hb)
      exact ⟨c', o1, g1, g2, g3, (setO_other this).trans g4, g5.mono hle⟩
  · have := h.dom b' c' hb'
    simpa [K.wd, World.setO] using this
  · obtain ⟨cs1, e1, fr, hh, hn⟩ := h.frz x n hf
    exact ⟨cs1, e1, fr, (setO_other (hne x n hf)).trans hh, hn⟩
  · obtain ⟨hl, x, n, cs1, lo, hi, g1, g2, g3, g4, g5⟩ := h.tok id e' ht
    exact ⟨hl, x, n, cs1, lo, hi, g1, g2, g3, (setO_other (hne x n g3)).trans g4, g5⟩

/-- an append in place: the owner gives its token up, a new one is made -/
def K.grow (k : K) (c n id id' : Nat) (us : Array Value) : K :=
  { base := k.base, w := k.w.setRow c us, blk := k.blk, frz := fun x => if x = c then some n else k.frz x, own := fun x => if x = id' then some c else k.own x, live := fun x => if x = id' then true else if x = id then false else k.live x }
theorem Inv.grow (h : Inv w0 σ k) {id c n n' : Nat} {cs us : Array Value} {e : TypeId} {lo hi : Nat} (ht : σ.toks.get id = some e) (ho : k.own id = some c) (hf : k.frz c = some n) (hn : n ≤ n')
    (hh : k.w.heap[c]? = some (.cells cs e (lo, hi))) (hr : lo = hi ∨ hi ≤ n) (hB : w0.heap.size ≤ c) (hsz : us.size = cs.size) (hn' : n' ≤ us.size) (hsame : ∀ i, i < n → us[i]? = cs[i]?) :
    Inv w0 ((σ.untok id).tok e) (k.grow c n' id σ.nextT us) ∧ k.le (k.grow c n' id σ.nextT us) := by
  have hid : ∀ id c, k.own id = some c → id ≠ σ.nextT := by
    rintro id c ho rfl
    rw [h.tnext _ (Nat.le_refl _)] at ho; cases ho
  have hc : (k.w.setRow c us).heap[c]? = some (.cells us e (lo, hi)) := setRow_heap _ _ _ _ _ _ hh
  have hbc : ∀ b x, k.blk b = some x → (∃ y, σ.blks.get b = some y) → x ≠ c := by
    rintro b x hb ⟨y, hy⟩ rfl
    exact h.frz_ne hy hb hf
  have hle : k.le (k.grow c n' id σ.nextT us) := by
    refine ⟨?_, fun x o hu => ?_, fun x m hm hno => ?_⟩
    rotate_left
    · have hxc : x ≠ c := by rintro rfl; have := hu.2.2; rw [hf] at this; cases this
      exact ⟨(setRow_other _ _ _ _ hxc).trans hu.1, hu.2.1, by simp only [K.grow, if_neg hxc]; exact hu.2.2⟩
    · have hxc : x ≠ c := by rintro rfl; exact hno _ ho
      simp only [K.grow, if_neg hxc]; exact hm
    refine ⟨rfl, fun _ _ h => h, fun x m hm => ?_, fun x m i hm hi' => ?_, fun x y hx => by simp only [K.grow, if_neg (hid x y hx)]; exact hx, fun x y hx hl => ?_, fun x m hm hno y hy => ?_, fun x cs1 e1 fr1 h1 => ?_⟩
    · simp only [K.grow]
      by_cases hxc : x = c
      · subst hxc; rw [hf] at hm; cases hm; exact ⟨n', hn, if_pos rfl⟩
      · rw [if_neg hxc]; exact ⟨m, Nat.le_refl _, hm⟩
    · simp only [K.grow]
      by_cases hxc : x = c
      · subst hxc
        rw [hf] at hm; cases hm
        rw [cell_get hc, cell_get hh]; exact hsame i hi'
      · exact cell_of_heap (setRow_other _ _ _ _ hxc)
    · have hne := hid x y hx
      simp only [K.grow, if_neg hne] at hl ⊢
      split at hl
      · cases hl
      · rename_i hxi
        refine ⟨hl, ?_⟩
        by_cases hyc : y = c
        · subst hyc
          obtain ⟨e', he'⟩ := h.liv x y hx hl
          exact absurd (h.tinj x id e' e y he' ht hx ho) hxi
        · rw [if_neg hyc]
    · simp only [K.grow] at hy
      split at hy
      · cases hy; exact hno id ho
      · exact hno y hy
    · by_cases hxc : x = c
      · subst hxc
        rw [hh] at h1; cases h1
        exact ⟨us, _, hc, hsz⟩
      · exact ⟨cs1, fr1, (setRow_other _ _ _ _ hxc).trans h1, rfl⟩
  refine ⟨⟨h.base, ?_, fun b y hy => ?_, h.next, fun b x hb => ?_, h.inj, fun x m hm => ?_, fun x e' hx => ?_, fun x hx => ?_, fun x y hx => ?_, fun x y e1 e2 z h1 h2 o1 o2 => ?_, fun x y hx hl => ?_⟩, hle⟩
  · exact h.below.trans ⟨rfl, rfl, rfl, by simp [K.grow], fun x hx => setRow_other _ _ _ _ (by omega)⟩
  · obtain ⟨c', o', h1, h2, h3, h4, h5⟩ := h.blk b y hy
    have hne : c' ≠ c := hbc b c' h1 ⟨y, hy⟩
    exact ⟨c', o', h1, h2, by simp only [K.grow, if_neg hne]; exact h3, (setRow_other _ _ _ _ hne).trans h4, h5.mono hle⟩
  · have := h.dom b x hb
    simp only [K.grow, setRow_size]; exact this
  · simp only [K.grow] at hm
    split at hm
    · rename_i hxc
      cases hm
      exact ⟨us, e, (lo, hi), by rw [hxc]; exact hc, hn'⟩
    · rename_i hxc
      obtain ⟨cs1, e1, fr, g1, g2⟩ := h.frz x m hm
      exact ⟨cs1, e1, fr, (setRow_other _ _ _ _ hxc).trans g1, g2⟩
  · simp only [St.tok, St.untok, Tr.get_set, Tr.get_del] at hx
    split at hx
    · rename_i hxi
      cases hx
      exact ⟨by simp [K.grow, hxi], c, n', us, lo, hi, by simp [K.grow, hxi], hB, by simp [K.grow], hc, by omega⟩
    · rename_i hxi
      split at hx
      · cases hx
      · rename_i hxid
        obtain ⟨hl, x', m, cs1, lo1, hi1, g1, g2, g3, g4, g5⟩ := h.tok x e' hx
        have hne : x' ≠ c := by
          rintro rfl
          exact hxid (h.tinj x id e' e x' hx ht g1 ho)
        exact ⟨by simp only [K.grow, if_neg hxi, if_neg hxid]; exact hl, x', m, cs1, lo1, hi1, by simp only [K.grow, if_neg hxi]; exact g1, g2, by simp only [K.grow, if_neg hne]; exact g3, (setRow_other _ _ _ _ hne).trans g4, g5⟩
  · simp only [St.tok, St.untok] at hx
    simp only [K.grow, if_neg (show x ≠ σ.nextT by omega)]
    exact h.tnext x (by omega)
  · simp only [K.grow] at hx ⊢
    split at hx
    · cases hx; exact ⟨n', if_pos rfl⟩
    · obtain ⟨m, hm⟩ := h.odom x y hx
      by_cases hyc : y = c
      · exact ⟨n', if_pos hyc⟩
      · exact ⟨m, by rw [if_neg hyc]; exact hm⟩
  · simp only [St.tok, St.untok, Tr.get_set, Tr.get_del] at h1 h2
    simp only [K.grow] at o1 o2
    by_cases hx : x = σ.nextT <;> by_cases hy : y = σ.nextT
    · rw [hx, hy]
    · rw [if_pos hx] at o1; cases o1
      rw [if_neg hy] at h2 o2
      split at h2
      · cases h2
      · rename_i hyi; exact absurd (h.tinj y id e2 e c h2 ht o2 ho) hyi
    · rw [if_pos hy] at o2; cases o2
      rw [if_neg hx] at h1 o1
      split at h1
      · cases h1
      · rename_i hxi; exact absurd (h.tinj x id e1 e c h1 ht o1 ho) hxi
    · rw [if_neg hx] at h1 o1
      rw [if_neg hy] at h2 o2
      split at h1
      · cases h1
      · split at h2
        · cases h2
        · exact h.tinj x y e1 e2 z h1 h2 o1 o2
  · simp only [St.tok, St.untok, Tr.get_set, Tr.get_del]
    by_cases hxi : x = σ.nextT
    · exact ⟨e, if_pos hxi⟩
    · simp only [K.grow, if_neg hxi] at hx hl
      split at hl
      · cases hl
      · rename_i hxid
        obtain ⟨e', he⟩ := h.liv x y hx hl
        exact ⟨e', by rw [if_neg hxi, if_neg hxid]; exact he⟩

/-- a block of the machine's own that is given up: its cells belong to a new owner -/
def K.seal_ (k : K) (c id : Nat) : K :=
  { k with frz := fun x => if x = c then some 0 else k.frz x, own := fun x => if x = id then some c else k.own x, live := fun x => if x = id then true else k.live x }
theorem Inv.seal_ (h : Inv w0 σ k) {b c : Nat} {cs : List A} {e : TypeId} (hx : σ.blks.get b = some (.cells cs e)) (hb : k.blk b = some c) (hex : e < offX) :
    Inv w0 ((σ.kill b).tok e) (k.seal_ c σ.nextT) ∧ k.le (k.seal_ c σ.nextT) := by
  obtain ⟨c', o, h1, h2, h3, h4, us, ws, e2, rfl, h5, h6⟩ := h.blk b _ hx
  obtain ⟨he2, rfl⟩ := h5 hex
  rw [he2, List.append_nil] at h4
  rw [hb] at h1; cases h1
  have hid : ∀ id c, k.own id = some c → id ≠ σ.nextT := by
    rintro id c ho rfl
    rw [h.tnext _ (Nat.le_refl _)] at ho; cases ho
  have hne : ∀ x n, k.frz x = some n → x ≠ c := by rintro x n hf rfl; rw [h3] at hf; cases hf
  have hoc : ∀ x, k.own x ≠ some c := fun x hx => by obtain ⟨n, hn⟩ := h.odom x c hx; exact hne _ _ hn rfl
  have hle : k.le (k.seal_ c σ.nextT) := by
    refine K.le_of h _ rfl (fun _ _ h => h) (fun x n hf => by simp only [K.seal_, if_neg (hne x n hf)]; exact hf) (fun id c ho => by simp only [K.seal_, if_neg (hid id c ho)]; exact ho)
      (fun id c ho hl => by simp only [K.seal_, if_neg (hid id c ho)] at hl; exact hl) (fun id x ho hx => ?_) (fun _ _ _ => rfl)
      (fun x o hu => by
        have hxc : x ≠ c := by rintro rfl; exact hu.2.1 b hb
        exact ⟨hu.1, hu.2.1, by simp only [K.seal_, if_neg hxc]; exact hu.2.2⟩) (fun _ cs _ fr h => ⟨cs, fr, h, rfl⟩)
    simp only [K.seal_] at ho
    split at ho
    · cases ho
      obtain ⟨n, hn⟩ := hx
      exact absurd rfl (hne _ n hn)
    · exact ⟨id, ho⟩
  refine ⟨⟨h.base, h.below, fun b' y hy => ?_, h.next, h.dom, h.inj_kill, fun x m hf => ?_, fun x e' ht => ?_, fun x hx => ?_, fun x y ho => ?_, fun x y e1 e2 z h1 h2 o1 o2 => ?_, fun x y ho hl => ?_⟩, hle⟩
  · simp only [St.kill, St.tok, Tr.get_del] at hy
    split at hy
    · cases hy
    · rename_i hbb
      obtain ⟨c', o', g1, g2, g3, g4, g5⟩ := h.blk b' y hy
      have : c' ≠ c := by rintro rfl; exact hbb (h.inj b' b _ _ _ hy hx g1 hb)
      exact ⟨c', o', g1, g2, by simp only [K.seal_, if_neg this]; exact g3, g4, g5.mono hle⟩
  · simp only [K.seal_] at hf
    split at hf
    · rename_i hxc
      cases hf
      exact ⟨us.toArray, e, (0, 0), by rw [hxc]; exact h4, Nat.zero_le _⟩
    · exact h.frz x m hf
  · simp only [St.kill, St.tok, Tr.get_set] at ht
    split at ht
    · rename_i hxi
      cases ht
      exact ⟨by simp [K.seal_, hxi], c, 0, us.toArray, 0, 0, by simp [K.seal_, hxi], h2, by simp [K.seal_], h4, .inl rfl⟩
    · rename_i hxi
      obtain ⟨hl, x', m, cs1, lo1, hi1, g1, g2, g3, g4, g5⟩ := h.tok x e' ht
      exact ⟨by simp only [K.seal_, if_neg hxi]; exact hl, x', m, cs1, lo1, hi1, by simp only [K.seal_, if_neg hxi]; exact g1, g2, by simp only [K.seal_, if_neg (hne _ _ g3)]; exact g3, g4, g5⟩
  · simp only [St.kill, St.tok] at hx
    simp only [K.seal_, if_neg (show x ≠ σ.nextT by omega)]
    exact h.tnext x (by omega)
  · simp only [K.seal_] at ho ⊢
    split at ho
    · cases ho; exact ⟨0, if_pos rfl⟩
    · obtain ⟨m, hm⟩ := h.odom x y ho
      exact ⟨m, by rw [if_neg (hne _ _ hm)]; exact hm⟩
  · simp only [St.kill, St.tok, Tr.get_set] at h1 h2
    simp only [K.seal_] at o1 o2
    by_cases hx : x = σ.nextT <;> by_cases hy : y = σ.nextT
    · rw [hx, hy]
    · rw [if_pos hx] at o1; cases o1
      rw [if_neg hy] at o2
      exact absurd o2 (hoc _)
    · rw [if_pos hy] at o2; cases o2
      rw [if_neg hx] at o1
      exact absurd o1 (hoc _)
    · rw [if_neg hx] at h1 o1
      rw [if_neg hy] at h2 o2
      exact h.tinj x y e1 e2 z h1 h2 o1 o2
  · simp only [St.kill, St.tok, Tr.get_set]
    by_cases hxi : x = σ.nextT
    · exact ⟨e, if_pos hxi⟩
    · simp only [K.seal_, if_neg hxi] at ho hl
      obtain ⟨e', he⟩ := h.liv x y ho hl
      exact ⟨e', by rw [if_neg hxi]; exact he⟩

/-- the mark on cells that a string shares, all of them below what does not change any more -/
theorem Inv.freeze (h : Inv w0 σ k) {c n a m : Nat} {cs : Array Value} {e : TypeId} {lo hi : Nat} (hf : k.frz c = some n) (hh : k.w.heap[c]? = some (.cells cs e (lo, hi)))
    (hB : w0.heap.size ≤ c) (hm : (∀ id, k.own id ≠ some c) ∨ (a + m ≤ n ∧ (lo = hi ∨ hi ≤ n))) :
    Inv w0 σ (k.wd (k.w.freeze ⟨c, a, none⟩ m)) ∧ k.le (k.wd (k.w.freeze ⟨c, a, none⟩ m)) := by
  obtain ⟨lo', hi', hc, ho, hlt⟩ : ∃ lo' hi', (k.w.freeze ⟨c, a, none⟩ m).heap[c]? = some (.cells cs e (lo', hi')) ∧ (∀ x, x ≠ c → (k.w.freeze ⟨c, a, none⟩ m).heap[x]? = k.w.heap[x]?) ∧ ((a + m ≤ n ∧ (lo = hi ∨ hi ≤ n)) → lo' = hi' ∨ hi' ≤ n) := by
    by_cases hm0 : m = 0
    · subst hm0
      exact ⟨lo, hi, by simpa [World.freeze] using hh, fun x _ => by simp [World.freeze], fun h => h.2⟩
    · by_cases hl : lo = hi
      · refine ⟨a, a + m, ?_, fun x hx => ?_, fun h => .inr h.1⟩
        · simp [World.freeze, hm0, Array.getElem?_modify, hh, hl]
        · simp only [World.freeze, if_neg hm0]
          rw [Array.getElem?_modify, if_neg (fun e => hx e.symm)]
      · refine ⟨min lo a, max hi (a + m), ?_, fun x hx => ?_, fun h => .inr ?_⟩
        · simp [World.freeze, hm0, Array.getElem?_modify, hh, hl]
        · simp only [World.freeze, if_neg hm0]
          rw [Array.getElem?_modify, if_neg (fun e => hx e.symm)]
        · rcases h.2 with h2 | h2
          · exact absurd h2 hl
          · exact Nat.max_le.2 ⟨h2, h.1⟩
  have hsz : (k.w.freeze ⟨c, a, none⟩ m).heap.size = k.w.heap.size := by
    simp only [World.freeze]; split <;> simp
  have hle : k.le (k.wd (k.w.freeze ⟨c, a, none⟩ m)) := by
    refine ⟨?_, fun x o hu => ?_, fun _ _ h _ => h⟩
    rotate_left
    · have hxc : x ≠ c := by rintro rfl; have := hu.2.2; rw [hf] at this; cases this
      exact ⟨(ho x hxc).trans hu.1, hu.2.1, hu.2.2⟩
    refine ⟨rfl, fun _ _ h => h, fun x y e => ⟨y, Nat.le_refl _, e⟩, fun x y i e _ => ?_, fun _ _ h => h, fun _ _ _ h => ⟨h, rfl⟩, fun _ _ _ h => h, fun x cs1 e1 fr1 h1 => ?_⟩
    · by_cases hx : x = c
      · subst hx; show (k.w.freeze ⟨x, a, none⟩ m).cell? _ = _; rw [cell_get hc, cell_get hh]
      · exact cell_of_heap (ho x hx)
    · by_cases hx : x = c
      · subst hx; rw [hh] at h1; cases h1; exact ⟨cs, _, hc, rfl⟩
      · exact ⟨cs1, fr1, (ho x hx).trans h1, rfl⟩
  refine ⟨⟨h.base, ?_, fun b y hy => ?_, h.next, fun b x hb => ?_, h.inj, fun x y hx => ?_, fun x e' hx => ?_, h.tnext, h.odom, h.tinj, h.liv⟩, hle⟩
  · refine h.below.trans ⟨?_, ?_, ?_, by rw [K.wd, hsz]; exact Nat.le_refl _, fun x hx => ho x (by omega)⟩ <;> (simp only [K.wd, World.freeze]; split <;> rfl)
  · obtain ⟨c', o', g1, g2, g3, g4, g5⟩ := h.blk b y hy
    have : c' ≠ c := by rintro rfl; rw [g3] at hf; cases hf
    exact ⟨c', o', g1, g2, g3, (ho _ this).trans g4, g5.mono hle⟩
  · have := h.dom b x hb
    rw [K.wd, hsz]; exact this
  · by_cases hxc : x = c
    · subst hxc
      obtain ⟨cs1, e1, fr, g1, g2⟩ := h.frz x y hx
      rw [hh] at g1; cases g1
      exact ⟨cs, _, _, hc, g2⟩
    · obtain ⟨cs1, e1, fr, g1, g2⟩ := h.frz x y hx
      exact ⟨cs1, e1, fr, (ho x hxc).trans g1, g2⟩
  · obtain ⟨hl, x', m', cs1, lo1, hi1, g1, g2, g3, g4, g5⟩ := h.tok x e' hx
    by_cases hxc : x' = c
    · subst hxc
      rcases hm with hm | hm
      · exact absurd g1 (hm x)
      · rw [hh] at g4; cases g4
        rw [hf] at g3; cases g3
        exact ⟨hl, x', n, cs, lo', hi', g1, g2, hf, hc, hlt hm⟩
    · exact ⟨hl, x', m', cs1, lo1, hi1, g1, g2, g3, (ho _ hxc).trans g4, g5⟩
end
end Go.DM
namespace Go.DM
open Go Go.RowKit

section
variable {P : Program} {w : World}
theorem det_run {α : Type} (s : Sem α) : ∀ {x : α}, det P s = some x → ∀ w, s.run P w = .ok x w := by
  induction s with
  | pure a => intro x h w; simp only [det] at h; cases h; rfl
  | program k ih => intro x h w; exact ih P h w
  | mark m k ih => intro x h w; exact ih h w
  | _ => intro x h; simp [det] at h
theorem run_isAgg' {t : TypeId} {b : Bool} (h : isAggT P t = some b) : (isAgg t).run P w = .ok b w := by
  unfold isAggT at h
  unfold isAgg
  split at h
  · cases h; rename_i hu; simp [run_underlying hu]
  · cases h; rename_i hu; simp [run_underlying hu]
  · cases h; rename_i d h1 h2 hu
    simp only [Sem.run_bind, run_underlying hu, Result.andThen_ok]
    cases d <;> first | rfl | (exact absurd rfl (h1 _)) | (exact absurd rfl (h2 _ _))
  · cases h
theorem run_sizeOf' {t : TypeId} {i : TypeInfo} (h : P.info? t = some i) : (sizeOf t).run P w = .ok i.size w := by simp [sizeOf, typeInfo, h]
theorem run_typeInfo' {t : TypeId} {i : TypeInfo} (h : P.info? t = some i) : (typeInfo t).run P w = .ok i w := by simp [typeInfo, h]
end

section
variable {k : K}
theorem toVals_eq : ∀ {cs : List A} {us us' : List Value}, cs.length = us.length → (∀ (j : Nat) (a : A) (u : Value), cs[j]? = some a → us[j]? = some u → ∀ u', toVal a = some u' → u' = u) → toVals cs = some us' → us' = us
  | [], us, us', hl, _, h => by
    simp only [toVals] at h; cases h
    simp at hl; exact (List.eq_nil_of_length_eq_zero hl.symm).symm
  | a :: cs, us, us', hl, hr, h => by
    match us, hl with
    | u :: us, hl =>
      simp only [toVals] at h
      split at h
      · rename_i u1 h1
        split at h
        · rename_i us1 h2
          cases h
          rw [hr 0 a u rfl rfl u1 h1, toVals_eq (by simpa using hl) (fun j x y hx hy => hr (j + 1) x y (by simpa using hx) (by simpa using hy)) h2]
        · cases h
      · cases h
theorem toVal_rel {a : A} {u : Value} (h : Rel k a u) : ∀ {u'}, toVal a = some u' → u' = u := by
  induction h with
  | v hs => intro u' h; simp only [toVal] at h; cases h; rfl
  | ifc _ ih =>
    intro u' h
    simp only [toVal] at h
    split at h
    · rename_i y hy; cases h; rw [ih hy]
    · cases h
  | agg hl _ ih =>
    intro u' h
    simp only [toVal] at h
    split at h
    · rename_i us' hy; cases h; rw [toVals_eq hl (fun j a u ha hu u' => ih j a u ha hu) hy]
    · cases h
  | tup hl _ ih =>
    intro u' h
    simp only [toVal] at h
    split at h
    · rename_i us' hy; cases h; rw [toVals_eq hl (fun j a u ha hu u' => ih j a u ha hu) hy]
    · cases h
  | @fn f first cap us vs h1 h2 _ _ _ _ =>
    intro u' h
    cases first with
    | nil => cases cap with
      | nil =>
        simp only [toVal] at h; cases h
        simp at h1 h2
        rw [List.eq_nil_of_length_eq_zero h1.symm, List.eq_nil_of_length_eq_zero h2.symm]
      | cons _ _ => simp [toVal] at h
    | cons _ _ => simp [toVal] at h
  | _ => intro u' h; simp [toVal] at h

theorem ofScal_rel {x : Value} {a : A} (h : ofScal x = some a) : Rel k a x := by
  unfold ofScal at h
  split at h
  · rename_i hs; cases h; exact .v hs
  · cases h
theorem ofScals_rel : ∀ {us : List Value} {as : List A}, ofScals us = some as → RelL k as us
  | [], as, h => by simp only [ofScals] at h; cases h; exact RelL.nil k
  | x :: r, as, h => by
    simp only [ofScals] at h
    split at h
    · rename_i a ha
      split at h
      · rename_i as' hs; cases h; exact RelL.cons (ofScal_rel ha) (ofScals_rel hs)
      · cases h
    · cases h
theorem ofVal1_rel {x : Value} {a : A} (h : ofVal1 x = some a) : Rel k a x := by
  unfold ofVal1 at h
  split at h
  · split at h
    · rename_i as hs
      cases h
      obtain ⟨h1, h2⟩ := ofScals_rel (k := k) hs
      exact .agg h1 h2
    · cases h
  · split at h
    · rename_i f first cap hs
      cases h
      have e1 : first = ([] : List Value).toArray := by simpa using hs.1
      have e2 : cap = ([] : List Value).toArray := by simpa using hs.2
      rw [e1, e2]
      exact .fn rfl rfl (fun j a u h => by simp at h) (fun j a u h => by simp at h)
    · cases h
  · exact ofScal_rel h
theorem ofVal2_rel {x : Value} {a : A} (h : ofVal2 x = some a) : Rel k a x := by
  unfold ofVal2 at h
  split at h
  · split at h
    · rename_i y hy; cases h; exact .ifc (ofVal1_rel hy)
    · cases h
  · exact ofVal1_rel h
theorem ofVal2s_rel : ∀ {us : List Value} {as : List A}, ofVal2s us = some as → RelL k as us
  | [], as, h => by simp only [ofVal2s] at h; cases h; exact RelL.nil k
  | x :: r, as, h => by
    simp only [ofVal2s] at h
    split at h
    · rename_i a ha
      split at h
      · rename_i as' hs; cases h; exact RelL.cons (ofVal2_rel ha) (ofVal2s_rel hs)
      · cases h
    · cases h
theorem ofVal_rel {x : Value} {a : A} (h : ofVal x = some a) : Rel k a x := by
  unfold ofVal at h
  split at h
  · split at h
    · rename_i as hs
      cases h
      obtain ⟨h1, h2⟩ := ofVal2s_rel (k := k) hs
      exact .tup h1 h2
    · cases h
  · exact ofVal2_rel h

theorem relL_toArray {cs : List A} {us : List Value} (h : RelL k cs us) : Rel k (.agg cs) (.agg us.toArray) := .agg h.1 h.2
theorem rel_bool {b : Bool} : Rel k (.v (.bool b)) (.bool b) := .v rfl
theorem rel_int {i : IntKind} {n : Int} : Rel k (.v (.int i n)) (.int i n) := .v rfl
theorem rel_und : Rel k und undef := .tup (cs := []) (us := []) rfl (fun j a u h => by simp at h)
theorem rel_tup2 {a b : A} {u v : Value} (h : Rel k a u) (g : Rel k b v) : Rel k (.tup [a, b]) (.tuple #[u, v]) := by
  obtain ⟨h1, h2⟩ := RelL.cons h (RelL.cons g (RelL.nil k))
  exact .tup (us := [u, v]) h1 h2

/-- cells that can be read -/
def CellsAt (k : K) (c i : Nat) (cs : List A) : Prop := ∀ (j : Nat) (a : A), cs[j]? = some a → ∃ u, k.w.cell? ⟨c, i + j, none⟩ = some u ∧ Rel k a u
theorem CellsAt.list {c i : Nat} : ∀ {cs : List A}, CellsAt k c i cs → ∃ us, RelL k cs us ∧ ∀ (j : Nat) (v : Value), us[j]? = some v → k.w.cell? ⟨c, i + j, none⟩ = some v
  | [], _ => ⟨[], RelL.nil k, fun j v h => by simp at h⟩
  | a :: cs, h => by
    obtain ⟨u, h1, h2⟩ := h 0 a rfl
    obtain ⟨us, h3, h4⟩ := CellsAt.list (cs := cs) (i := i + 1) (fun j x hx => by
      obtain ⟨u, g1, g2⟩ := h (j + 1) x (by simpa using hx)
      exact ⟨u, by rw [← g1]; congr 2; omega, g2⟩)
    refine ⟨u :: us, RelL.cons h2 h3, fun j v hv => ?_⟩
    cases j with
    | zero => simp at hv; subst hv; exact h1
    | succ j =>
      simp at hv
      have := h4 j v hv
      rw [← this]; congr 2; omega
theorem CellsAt.sub {c i : Nat} {cs : List A} (h : CellsAt k c i cs) (o n : Nat) : CellsAt k c (i + o) ((cs.drop o).take n) := by
  intro j a ha
  rw [List.getElem?_take] at ha
  split at ha
  · rw [List.getElem?_drop] at ha
    obtain ⟨u, h1, h2⟩ := h _ a ha
    exact ⟨u, by rw [← h1]; congr 2; omega, h2⟩
  · cases ha
theorem addr_add (c i j : Nat) : (⟨c, i, none⟩ : Addr).add j = ⟨c, i + j, none⟩ := by
  unfold Addr.add; split
  · rename_i h; subst h; rfl
  · rfl
theorem CellsAt.load {P : Program} {c i : Nat} {cs : List A} (h : CellsAt k c i cs) : ∃ us, RelL k cs us ∧ (loadCells ⟨c, i, none⟩ cs.length).run P k.w = .ok us.toArray k.w := by
  obtain ⟨us, h1, h2⟩ := h.list
  refine ⟨us, h1, ?_⟩
  have := run_loadCells_list (P := P) k.w ⟨c, i, none⟩ us (fun j v hv => by rw [addr_add]; exact h2 j v hv)
  rw [h1.1]; exact this
theorem loadAt_good {P : Program} {c i o : Nat} {cs : List A} {t : TypeId} {a : A} (h : CellsAt k c i cs) (hl : loadAt P t cs o = some a) :
    ∃ v, (loadVar t ⟨c, i + o, none⟩).run P k.w = .ok v k.w ∧ Rel k a v := by
  unfold loadAt at hl
  split at hl
  · rename_i ti ha hi
    split at hl
    · rename_i hb
      cases hl
      obtain ⟨us, h1, h2⟩ := (h.sub o ti.size).load (P := P)
      have hlen : ((cs.drop o).take ti.size).length = ti.size := by simp; omega
      rw [hlen] at h2
      refine ⟨.agg us.toArray, ?_, relL_toArray h1⟩
      simp [loadVar, run_isAgg' ha, run_sizeOf' hi, h2]
    · cases hl
  · rename_i ha hi
    obtain ⟨u, h1, h2⟩ := h _ a hl
    refine ⟨u, ?_, h2⟩
    simp [loadVar, run_isAgg' ha, h1]
  · cases hl
end

section
variable {P : Program} {w0 : World} {σ : St} {k : K}
theorem Inv.cellsAt (hI : Inv w0 σ k) {b c : Nat} {cs : List A} {e : TypeId} (hc : σ.cells b = some (cs, e)) (hb : k.blk b = some c) :
    CellsAt k c 0 cs ∧ σ.blks.get b = some (.cells cs e) ∧ ∃ (us ws : List Value) (e' : TypeId), k.w.heap[c]? = some (.cells (us ++ ws).toArray e' (0, 0)) ∧ RelL k cs us ∧ w0.heap.size ≤ c ∧ (e < offX → e' = e ∧ ws = []) := by
  unfold St.cells at hc
  split at hc
  · rename_i cs' e' hg
    cases hc
    obtain ⟨c', o, h1, h2, h3, h4, us, ws, e', rfl, h6, h5⟩ := hI.blk b _ hg
    rw [hb] at h1; cases h1
    refine ⟨fun j a ha => ?_, hg, us, ws, e', h4, h5, h2, h6⟩
    obtain ⟨u, g1, g2⟩ := h5.get ha
    have hj : j < us.length := lt_of_get g1
    exact ⟨u, by rw [cell_get h4, Nat.zero_add, List.getElem?_toArray, List.getElem?_append_left hj]; exact g1, g2⟩
  · cases hc
theorem Inv.cellsEx (hI : Inv w0 σ k) {b c : Nat} {cs : List A} {e : TypeId} (hc : σ.cells b = some (cs, e)) (hb : k.blk b = some c) (he : e < offX) :
    CellsAt k c 0 cs ∧ σ.blks.get b = some (.cells cs e) ∧ ∃ us : List Value, k.w.heap[c]? = some (.cells us.toArray e (0, 0)) ∧ RelL k cs us ∧ w0.heap.size ≤ c := by
  obtain ⟨h1, h2, us, ws, e', h3, h4, h5, h6⟩ := hI.cellsAt hc hb
  obtain ⟨rfl, rfl⟩ := h6 he
  rw [List.append_nil] at h3
  exact ⟨h1, h2, us, h3, h4, h5⟩
theorem loadOp_good (hI : Inv w0 σ k) {t : TypeId} {x a : A} {u : Value} (hx : Rel k x u) (h : loadOp P t x σ = some a) : ∃ v, (Instr.loadAt t u).run P k.w = .ok v k.w ∧ Rel k a v := by
  unfold loadOp at h
  split at h
  · split at h
    · rename_i b o cs e hc
      cases hx with
      | ptr hb =>
        obtain ⟨g, _⟩ := hI.cellsAt hc hb
        obtain ⟨v, h1, h2⟩ := loadAt_good (P := P) g h
        exact ⟨v, by simp only [Instr.loadAt, Instr.sureAddr, Sem.run_bind, Sem.run_pure, Result.andThen_ok]; rw [← h1]; simp, h2⟩
    · cases h
  · rename_i cs o ap
    cases hx with
    | sp u hf hl hc hr hs =>
      obtain ⟨v, h1, h2⟩ := loadAt_good (P := P) (k := k) (fun j a ha => ⟨_, hc j a ha, hr j a ha⟩) h
      exact ⟨v, by simp only [Instr.loadAt, Instr.sureAddr, Sem.run_bind, Sem.run_pure, Result.andThen_ok]; exact h1, h2⟩
  · cases h

/-- the cells of a value -/
theorem Rel.cells {k : K} {a : A} {u : Value} (h : Rel k a u) (hj : a ≠ .junk) : RelL k a.cells u.cells.toList := by
  cases h with
  | junk => exact absurd rfl hj
  | agg h1 h2 => exact ⟨h1, h2⟩
  | v hs =>
    have : u.cells = #[u] := by cases u <;> first | rfl | (simp [scal] at hs)
    rw [this]; exact RelL.cons (.v hs) (RelL.nil k)
  | ptr hb => exact RelL.cons (.ptr hb) (RelL.nil k)
  | sp u a b c d e => exact RelL.cons (.sp u a b c d e) (RelL.nil k)
  | sl u a b c d e f g h => exact RelL.cons (.sl u a b c d e f g h) (RelL.nil k)
  | sl0 hz => exact RelL.cons (.sl0 hz) (RelL.nil k)
  | ms a b c => exact RelL.cons (.ms a b c) (RelL.nil k)
  | mv a b c d => exact RelL.cons (.mv a b c d) (RelL.nil k)
  | mp a => exact RelL.cons (.mp a) (RelL.nil k)
  | fn a b c d => exact RelL.cons (.fn a b c d) (RelL.nil k)
  | ifc a => exact RelL.cons (.ifc a) (RelL.nil k)
  | tup a b => exact RelL.cons (.tup a b) (RelL.nil k)
  | raw a b c d => exact RelL.cons (.raw a b c d) (RelL.nil k)
end
end Go.DM
namespace Go.DM
open Go Go.RowKit

/-- a deferred call -/
def DefRel (k : K) (x : FuncId × List A) (d : Deferred) : Prop := ∃ us vs : List Value, d.target = .fn (.func x.1) vs.toArray ∧ d.args = us.toArray ∧ RelL k x.2 (us ++ vs)
theorem DefRel.mono0 {k k' : K} (h : k.le0 k') {x : FuncId × List A} {d : Deferred} (hd : DefRel k x d) : DefRel k' x d :=
  let ⟨us, vs, h1, h2, h3⟩ := hd; ⟨us, vs, h1, h2, h3.mono0 h⟩

theorem DefRel.mono {k k' : K} (h : k.le k') {x : FuncId × List A} {d : Deferred} (hd : DefRel k x d) : DefRel k' x d := DefRel.mono0 h.toLe0 hd
/-- what the model does where the machine comes to r -/
def Good (_P : Program) (w0 : World) (k : K) (res : Result Next) : R → Prop
  | .val x σ' => ∃ k' v, res = .ok (.value v) k'.w ∧ Rel k' x v ∧ Inv w0 σ' k' ∧ k.le k'
  | .skip σ' => ∃ k', res = .ok .skip k'.w ∧ Inv w0 σ' k' ∧ k.le k'
  | .call f args σ' => ∃ k' us, res = .ok (.enter f us) k'.w ∧ RelL k' args us.toList ∧ Inv w0 σ' k' ∧ k.le k'
  | .pan x σ' => ∃ k' v, res = .halt (.panic v) k'.w ∧ Rel k' x v ∧ Inv w0 σ' k' ∧ k.le k'
  | .dfr f args σ' => ∃ k' d, res = .ok (.defer d) k'.w ∧ DefRel k' (f, args) d ∧ Inv w0 σ' k' ∧ k.le k'
  | .rcv σ' => ∃ k', res = .ok .recover k'.w ∧ Inv w0 σ' k' ∧ k.le k'

section
variable {C : Cfg} {w0 : World} {σ σ' : St} {k : K} {ρ : Operand → Option A} {ρ' : Operand → Value} {o : Oper} {r : R} {res : Result Next}

theorem Good.here {x : A} {v : Value} (hI : Inv w0 σ k) (h : res = .ok (.value v) k.w) (hr : Rel k x v) : Good C.P w0 k res (.val x σ) :=
  ⟨k, v, h, hr, hI, K.le.refl k⟩

theorem detIf_good (hI : Inv w0 σ k) (hρ : ∀ x a, ρ x = some a → Rel k a (ρ' x)) (hs : ∀ cs b, o.op ≠ .select cs b) (h : detIf C ρ o σ = some r) : Good C.P w0 k ((execOp ρ' o).run C.P k.w) r := by
  unfold detIf at h
  split at h
  · rename_i hp
    unfold detOp at h
    split at h
    · rename_i u hd
      split at h
      · rename_i a ha
        cases h
        have hc : execOp (valOf ρ) o = execOp ρ' o := by
          refine execOp_congr o hs (fun x hx => ?_)
          have hq := (List.all_eq_true.1 hp) x (Array.mem_toList_iff.2 hx)
          revert hq
          unfold valOf
          cases hxx : ρ x with
          | none => intro hq; simp at hq
          | some b =>
            intro hq
            cases hb : toVal b with
            | none => simp [hb] at hq
            | some y => simpa [hb] using toVal_rel (hρ x b hxx) hb
        rw [hc] at hd
        exact Good.here (C := C) hI (det_run _ hd k.w) (ofVal_rel ha)
      · cases h
    · cases h
  · cases h

theorem wrapV_good {x : Option A} (h : wrapV x σ = some r) : ∃ a, x = some a ∧ r = .val a σ := by
  unfold wrapV at h; split at h
  · rename_i a; cases h; exact ⟨a, rfl, rfl⟩
  · cases h
theorem wrapS_good {x : Option (A × St)} (h : wrapS x = some r) : ∃ a σ', x = some (a, σ') ∧ r = .val a σ' := by
  unfold wrapS at h; split at h
  · rename_i a s; cases h; exact ⟨a, s, rfl, rfl⟩
  · cases h
theorem wrapU_good {x : Option St} (h : wrapU x = some r) : ∃ σ', x = some σ' ∧ r = .skip σ' := by
  unfold wrapU at h; split at h
  · rename_i s; cases h; exact ⟨s, rfl, rfl⟩
  · cases h

theorem oneCell_of {a : A} {u : Value} (h : Rel k a u) (ho : isOne a = true) : u.oneCell' = true := by
  cases h with
  | v hs => cases u <;> first | rfl | (simp [scal] at hs)
  | agg _ _ => simp [isOne] at ho
  | tup _ _ => simp [isOne] at ho
  | junk => simp [isOne] at ho
  | _ => rfl
theorem allOne_mem {cs : List A} {us : List Value} (h : RelL k cs us) (ho : allOne cs = true) : ∀ v ∈ us, v.oneCell' = true := by
  intro v hv
  obtain ⟨j, hj⟩ := List.mem_iff_getElem?.1 hv
  have hlt : j < cs.length := by rw [h.1]; exact lt_of_get hj
  exact oneCell_of (h.2 j _ v (List.getElem?_eq_getElem hlt) hj) ((List.all_eq_true.1 ho) _ (List.getElem_mem hlt))
theorem allOne_ne_junk {x : A} (h : allOne x.cells = true) : x ≠ .junk := by
  rintro rfl; simp [allOne, A.cells, isOne] at h

theorem RelL.splice {cs xs : List A} {us vs : List Value} (h : RelL k cs us) (g : RelL k xs vs) (o : Nat) : RelL k (splice cs o xs) (us.take o ++ vs ++ us.drop (o + vs.length)) := by
  unfold DM.splice
  rw [← g.1]
  exact ((h.take o).append g).append (h.drop _)

/-- stores, one behind the other, into a block -/
theorem run_stores (P : Program) (c : Nat) (e : TypeId) (lo hi : Nat) : ∀ (vs : List Value) (i j : Nat) (us : List Value) (w : World), w.heap[c]? = some (.cells us.toArray e (lo, hi)) → i + j + vs.length ≤ us.length →
    (∀ v ∈ vs, v.oneCell' = true) → (lo = hi ∨ hi ≤ i + j) → (storeCells ⟨c, i, none⟩ vs j).run P w = .ok () (w.setRow c (us.take (i + j) ++ vs ++ us.drop (i + j + vs.length)).toArray)
  | [], i, j, us, w, hh, hl, _, _ => by
    simp only [storeCells, Sem.run_pure]
    simp only [List.append_nil, List.length_nil, Nat.add_zero, List.take_append_drop]
    congr 1
    have hlt := lt_of_heap hh
    obtain ⟨heap, tape, drawn, os, out⟩ := w
    simp only [World.setRow]
    congr 1
    apply Array.ext_getElem?
    intro n
    rw [Array.getElem?_modify]
    split
    · rename_i hn; subst hn; simp only at hh; rw [hh]; rfl
    · rfl
  | v :: vs, i, j, us, w, hh, hl, ho, hr => by
    have hlen : i + j < us.length := by simp at hl; omega
    have hcell : w.cell? ⟨c, i + j, none⟩ = some us[i + j] := by rw [cell_get hh]; simp [hlen]
    have hfr : w.frozen? ⟨c, i + j, none⟩ = false := by
      rw [frozen_get hh]
      rcases hr with hr | hr <;> simp <;> omega
    have hst : (store ⟨c, i + j, none⟩ v).run P w = .ok () (w.setRow c (us.set (i + j) v).toArray) := by
      rw [run_store P w _ v .plain (ho v (by simp))]
      simp only [hcell, hfr, Bool.false_eq_true, if_false]
      rw [setCell_eq_setRow w c (i + j) us.toArray e (lo, hi) v hh]
      simp
    have hh' : (w.setRow c (us.set (i + j) v).toArray).heap[c]? = some (.cells (us.set (i + j) v).toArray e (lo, hi)) := setRow_heap _ _ _ _ _ _ hh
    have ih := run_stores P c e lo hi vs i (j + 1) (us.set (i + j) v) _ hh' (by simp at hl ⊢; omega) (fun x hx => ho x (by simp [hx])) (by omega)
    simp only [storeCells, Sem.run_bind]
    rw [addr_add, hst]
    simp only [Result.andThen_ok]
    rw [ih, setRow_setRow]
    congr 3
    have e1 : i + (j + 1) = i + j + 1 := by omega
    rw [e1]
    have h1 : List.take (i + j + 1) (us.set (i + j) v) = us.take (i + j) ++ [v] := by
      rw [List.take_succ_eq_append_getElem (by simp; exact hlen)]
      simp [List.take_set]
      rw [List.set_eq_of_length_le (by rw [List.length_take]; exact Nat.min_le_left _ _)]
    rw [h1, List.drop_set]
    simp only [List.length_cons]
    rw [if_pos (by omega)]
    simp only [List.append_assoc, List.cons_append, List.nil_append]
    congr 4
    omega
end
end Go.DM
