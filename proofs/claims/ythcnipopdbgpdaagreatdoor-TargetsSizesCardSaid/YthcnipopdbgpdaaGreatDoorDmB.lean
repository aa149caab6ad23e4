/- This text states the D-machine (a machine on data over the model's code), its relation to the model's worlds, and its steps. No condition. -/
import Derived.WalkKit
import Derived.Orders
namespace Go.DM

inductive Tr (α : Type) where
 | nil
 | node (l : Tr α) (v : Option α) (r : Tr α)

namespace Tr
variable {α : Type}

def get : Tr α → Nat → Option α
 | .nil, _ => none
 | .node l v r, n => if n = 0 then v else if n % 2 = 1 then l.get (n / 2) else r.get (n / 2 - 1)

def root : Tr α → Option α
 | .nil => none
 | .node _ v _ => v
def left : Tr α → Tr α
 | .nil => .nil
 | .node l _ _ => l
def right : Tr α → Tr α
 | .nil => .nil
 | .node _ _ r => r

theorem get_eq (t : Tr α) (n : Nat) : t.get n = if n = 0 then t.root else if n % 2 = 1 then t.left.get (n / 2) else t.right.get (n / 2 - 1) := by
 cases t with
 | nil => simp [get, root, left, right]
 | node l v r => rw [get]; rfl

def setF : Nat → Tr α → Nat → Option α → Tr α
 | 0, t, _, _ => t
 | f + 1, t, n, x => if n = 0 then .node t.left x t.right else if n % 2 = 1 then .node (setF f t.left (n / 2) x) t.root t.right else .node t.left t.root (setF f t.right (n / 2 - 1) x)

def set (t : Tr α) (n : Nat) (x : α) : Tr α := setF (n + 1) t n (some x)
def del (t : Tr α) (n : Nat) : Tr α := setF (n + 1) t n none

theorem get_setF_same : ∀ (f : Nat) (t : Tr α) (n : Nat) (x : Option α), n < f → (setF f t n x).get n = x
 | 0, _, _, _, h => absurd h (Nat.not_lt_zero _)
 | f + 1, t, n, x, h => by
  rw [setF]
  by_cases h0 : n = 0
  ·rw [if_pos h0, get, if_pos h0]
  ·rw [if_neg h0]
   by_cases h1 : n % 2 = 1
   ·rw [if_pos h1, get, if_neg h0, if_pos h1]
    exact get_setF_same f _ _ _ (by omega)
   ·rw [if_neg h1, get, if_neg h0, if_neg h1]
    exact get_setF_same f _ _ _ (by omega)

theorem get_setF_ne : ∀ (f : Nat) (t : Tr α) (n m : Nat) (x : Option α), n < f → m ≠ n → (setF f t n x).get m = t.get m
 | 0, _, _, _, _, h, _ => absurd h (Nat.not_lt_zero _)
 | f + 1, t, n, m, x, h, hne => by
  rw [setF, get_eq t m]
  by_cases h0 : n = 0
  ·rw [if_pos h0, get]
   have : m ≠ 0 := by omega
   rw [if_neg this, if_neg this]
  ·rw [if_neg h0]
   by_cases h1 : n % 2 = 1
   ·rw [if_pos h1, get]
    by_cases hm : m = 0
    ·rw [if_pos hm, if_pos hm]
    ·rw [if_neg hm, if_neg hm]
     by_cases hm1 : m % 2 = 1
     ·rw [if_pos hm1, if_pos hm1]
      exact get_setF_ne f _ _ _ _ (by omega) (by omega)
     ·rw [if_neg hm1, if_neg hm1]
   ·rw [if_neg h1, get]
    by_cases hm : m = 0
    ·rw [if_pos hm, if_pos hm]
    ·rw [if_neg hm, if_neg hm]
     by_cases hm1 : m % 2 = 1
     ·rw [if_pos hm1, if_pos hm1]
     ·rw [if_neg hm1, if_neg hm1]
      exact get_setF_ne f _ _ _ _ (by omega) (by omega)

theorem get_set (t : Tr α) (n m : Nat) (x : α) : (t.set n x).get m = if m = n then some x else t.get m := by
 unfold set
 split
 ·rename_i h; subst h; exact get_setF_same _ _ _ _ (by omega)
 ·rename_i h; exact get_setF_ne _ _ _ _ _ (by omega) h
theorem get_del (t : Tr α) (n m : Nat) : (t.del n).get m = if m = n then none else t.get m := by
 unfold del
 split
 ·rename_i h; subst h; exact get_setF_same _ _ _ _ (by omega)
 ·rename_i h; exact get_setF_ne _ _ _ _ _ (by omega) h
@[simp] theorem Afh (n : Nat) : (Tr.nil : Tr α).get n = none := rfl
end Tr
end Go.DM
namespace Go.DM
open Go

inductive Ap where
 | no
 | ex
 | gr (id : Nat)
 deriving DecidableEq

inductive A where
 | v (x : Value)
 | ptr (b o : Nat)
 | sp (cs : List A) (o : Nat) (ap : Ap)
 | sl (sz : Nat) (cs : List A) (ap : Ap)
 | ms (b o len cap : Nat)
 | mp (b : Nat)
 | fn (f : Fn) (first cap : List A)
 | ifc (t : TypeId) (x : A)
 | agg (cs : List A)
 | tup (vs : List A)
 | raw (id len : Nat)
 | junk

def Tx : Value → Bool
 | .bool _ | .int .. | .float .. | .complex .. | .string _ | .pointer none | .slice none 0 0 | .map none | .chan none | .nilFunc | .nilIface => true
 | _ => false

mutual
def Bo : A → Option Value
 | .v x => some x
 | .ifc t x => match Bo x with
  | some u => some (.iface t u)
  | none => none
 | .agg cs => match toVals cs with
  | some us => some (.agg us.toArray)
  | none => none
 | .tup cs => match toVals cs with
  | some us => some (.tuple us.toArray)
  | none => none
 | .fn f [] [] => some (.func f #[] #[])
 | _ => none
def toVals : List A → Option (List Value)
 | [] => some []
 | a :: r => match Bo a with
  | some u => match toVals r with
   | some us => some (u :: us)
   | none => none
  | none => none
end

def Ks (x : Value) : Option A := if Tx x then some (.v x) else none
def Ia : List Value → Option (List A)
 | [] => some []
 | x :: r => match Ks x with
  | some a => match Ia r with
   | some as => some (a :: as)
   | none => none
  | none => none
def Gn : Value → Option A
 | .agg cs => match Ia cs.toList with
  | some as => some (.agg as)
  | none => none
 | .func f first cap => if first.size = 0 ∧ cap.size = 0 then some (.fn f [] []) else none
 | x => Ks x
def Nl : Value → Option A
 | .iface t x => match Gn x with
  | some a => some (.ifc t a)
  | none => none
 | x => Gn x
def Ib : List Value → Option (List A)
 | [] => some []
 | x :: r => match Nl x with
  | some a => match Ib r with
   | some as => some (a :: as)
   | none => none
  | none => none
def Ee : Value → Option A
 | .tuple vs => match Ib vs.toList with
  | some as => some (.tup as)
  | none => none
 | x => Nl x

inductive Blk where
 | cells (cs : List A) (e : TypeId)
 | siter (s : ByteArray) (pos : Nat)
 | map (es : List (Value × A × Nat)) (clock : Nat)
 | miter (m since : Nat) (seen : List Nat) (clock : Nat)

structure St where
 blks : Tr Blk
 next : Nat
 toks : Tr TypeId
 nextT : Nat

def det {α : Type} (P : Program) : Sem α → Option α
 | .pure a => some a
 | .program k => det P (k P)
 | .mark _ k => det P k
 | _ => none

structure Fr where
 s : Tr A
 ds : List (FuncId × List A)
def und : A := .tup []
def Fr.at (φ : Fr) (t : Nat) : A := (φ.s.get t).getD und
def Fr.set (φ : Fr) (t : Nat) (x : A) : Fr := { φ with s := φ.s.set t x }

def Qy : Value → Value → Bool
 | .bool a, .bool b => a == b
 | .int j a, .int k b => j == k && a == b
 | .float j a, .float k b => j == k && a == b
 | .complex j a b, .complex k c d => j == k && a == c && b == d
 | .string a, .string b => a.data.toList == b.data.toList
 | .pointer none, .pointer none => true
 | .slice none 0 0, .slice none 0 0 => true
 | .map none, .map none => true
 | .chan none, .chan none => true
 | .nilFunc, .nilFunc => true
 | .nilIface, .nilIface => true
 | _, _ => false
mutual
def A.beq : A → A → Bool
 | .v x, .v y => Qy x y
 | .ptr b o, .ptr b' o' => b == b' && o == o'
 | .sp cs o ap, .sp cs' o' ap' => o == o' && ap == ap' && beqs cs cs'
 | .sl z cs ap, .sl z' cs' ap' => z == z' && ap == ap' && beqs cs cs'
 | .ms b o l c, .ms b' o' l' c' => b == b' && o == o' && l == l' && c == c'
 | .mp b, .mp b' => b == b'
 | .ifc t x, .ifc t' x' => t == t' && A.beq x x'
 | .agg cs, .agg cs' => beqs cs cs'
 | .tup cs, .tup cs' => beqs cs cs'
 | _, _ => false
def beqs : List A → List A → Bool
 | [], [] => true
 | x :: r, y :: s => A.beq x y && beqs r s
 | _, _ => false
end

structure Cfg where
 P : Program
 glob : Nat → Option A
 prim : FuncId → Option (List A → St → Option (A × St))
 /-- slices of these types that append begins are blocks -/
 mutB : TypeId → Bool := fun _ => false

def ev (C : Cfg) (φ : Fr) : Operand → Option A
 | .tmp t => φ.s.get t
 | .const v => Ee v
 | .global g => C.glob g
 | .func f => some (.fn (.func f) [] [])

inductive R where
 | val (x : A) (σ : St)
 | skip (σ : St)
 | call (f : FuncId) (args : List A) (σ : St)
 | pan (x : A) (σ : St)
 | dfr (f : FuncId) (args : List A) (σ : St)
 | rcv (σ : St)

def St.cells (σ : St) (b : Nat) : Option (List A × TypeId) := match σ.blks.get b with
 | some (.cells cs e) => some (cs, e)
 | _ => none
def St.push (σ : St) (b : Blk) : St := { σ with blks := σ.blks.set σ.next b, next := σ.next + 1 }
def St.put (σ : St) (b : Nat) (x : Blk) : St := { σ with blks := σ.blks.set b x }
def St.kill (σ : St) (b : Nat) : St := { σ with blks := σ.blks.del b }
def St.tok (σ : St) (e : TypeId) : St := { σ with toks := σ.toks.set σ.nextT e, nextT := σ.nextT + 1 }
def St.untok (σ : St) (id : Nat) : St := { σ with toks := σ.toks.del id }
def St.live (σ : St) (id : Nat) : Option TypeId := σ.toks.get id

def A.cells : A → List A
 | .agg cs => cs
 | x => [x]
def Du : A → Bool
 | .agg _ | .tup _ | .junk => false
 | _ => true
def Bh (cs : List A) : Bool := cs.all Du

def Ef (P : Program) (t : TypeId) : Option Bool := match P.underlying t with
 | some (.struct _) | some (.array _ _) => some true
 | some _ => some false
 | none => none

def loadAt (P : Program) (t : TypeId) (cs : List A) (o : Nat) : Option A := match Ef P t, P.info? t with
 | some true, some i => if o + i.size ≤ cs.length then some (.agg ((cs.drop o).take i.size)) else none
 | some false, some _ => cs[o]?
 | _, _ => none

def splice (cs : List A) (o : Nat) (xs : List A) : List A := cs.take o ++ xs ++ cs.drop (o + xs.length)

def Fm (P : Program) (t : TypeId) : Option (List A) := match P.info? t with
 | some i => match i.zero with
  | some z => match Gn z with
   | some a => some a.cells
   | none => none
  | none => none
 | none => none

def Kt (P : Program) (t : TypeId) : Option A := match P.info? t with
 | some i => match i.zero with
  | some z => Gn z
  | none => none
 | none => none

def Al (P : Program) (t : TypeId) : Option Nat := (P.info? t).map (·.size)

def rep (n : Nat) (z : List A) : List A := match n with
 | 0 => []
 | n + 1 => z ++ rep n z

def lay (place : Nat → Option (Nat × Nat)) (cs : List A) : List (Nat × A) → Option (List A)
 | [] => some cs
 | (i, x) :: r => match place i with
  | none => none
  | some (off, size) =>
   if x.cells.length = size ∧ off + size ≤ cs.length then lay place (splice cs off x.cells) r else none

def Gp (P : Program) (fs : List Field) : Option (List (Nat × Nat)) := match fs with
 | [] => some []
 | f :: r => match Al P f.type, Gp P r with
  | some n, some l => some ((f.offset, n) :: l)
  | _, _ => none

def C6 (s : ByteArray) : List A := s.data.toList.map fun b => .v (.int .u8 b.toNat)
def Dv : List A → Option (List UInt8)
 | [] => some []
 | .v (.int .u8 n) :: r => match Dv r with
  | some bs => some (UInt8.ofNat n.toNat :: bs)
  | none => none
 | _ :: _ => none

def Ai (σ : St) (sz : Nat) : A → Option (List A)
 | .v (.slice none 0 0) => some []
 | .v (.string s) => if sz = 1 then some (C6 s) else none
 | .sl sz' cs _ => if sz' = sz then some cs else none
 | .ms b o len _ => match σ.cells b with
  | some (cs, _) => if o + len * sz ≤ cs.length then some ((cs.drop o).take (len * sz)) else none
  | none => none
 | _ => none

def Ic : A → Option Nat
 | .v (.int _ n) => if 0 ≤ n then some n.toNat else none
 | _ => none

def Gl : Nat := 9223372036854775808
def Hw : Nat := 1099511627776
def I9 (n : Nat) (lo hi : Option A) : Option (Nat × Nat) :=
 match (match hi with | none => some n | some x => Ic x) with
 | none => none
 | some h => if h ≤ n then
   match (match lo with | none => some 0 | some x => Ic x) with
   | none => none
   | some l => if l ≤ h then some (l, h) else none
  else none

def Dw (P : Program) (t : TypeId) (x : A) (lo hi : Option A) (σ : St) : Option (A × St) :=
 match P.underlying t, x with
 | some (.slice e), .sl sz cs ap =>
  if Al P e = some sz ∧ 0 < sz then
   match I9 (cs.length / sz) lo hi with
   | some (l, h) => some (.sl sz ((cs.drop (l * sz)).take ((h - l) * sz)) (if h = cs.length / sz then ap else .no), σ)
   | none => none
  else none
 | some (.slice e), .ms b o len cap =>
  match Al P e, I9 len lo hi with
  | some sz, some (l, h) =>
   if Gl ≤ cap then (if 0 < sz ∧ cap = Gl + sz ∧ l < len then some (.ms b (o + l * sz) (h - l) cap, σ) else none)
   else if 0 < sz ∧ l = 0 ∧ h = 0 ∧ o = 0 then match σ.cells b with
    | some (cs, e') => if e' = e ∧ e < Hw ∧ cs.length = cap * sz then some (.sl sz [] (.gr σ.nextT), (σ.kill b).tok e) else none
    | none => none
   else if 0 < sz ∧ l < cap then some (.ms b (o + l * sz) (h - l) (cap - l), σ) else none
  | _, _ => none
 | some (.slice e), .raw id len =>
  match Al P e, I9 len lo hi with
  | some 1, some (0, 0) => some (.sl 1 [] (.gr id), σ)
  | _, _ => none
 | some (.array n e), .ptr b o =>
  match Al P e, I9 n lo hi with
  | some sz, some (l, h) => if 0 < sz ∧ n < Gl ∧ l < n then some (.ms b (o + l * sz) (h - l) (n - l), σ) else none
  | _, _ => none
 | _, _ => none

def Ty : A → Bool
 | .v (.slice none 0 0) | .sl .. | .ms .. => true
 | _ => false
def Bp (P : Program) (t : TypeId) (s x : A) (σ : St) : Option (A × St) :=
 match P.underlying t with
 | some (.slice e) => match P.info? e with
  | some i => match Ai σ i.size x with
   | some new =>
    if 0 < i.size then
     if new = [] then (if Ty s then some (s, σ) else none) else
     if Bh new ∧ i.zero.isSome ∧ (i.zero.map (·.cells.size)) = some i.size ∧ 0 < i.bytes then
      match s with
      | .v (.slice none 0 0) =>
       if (2 * (new.length / i.size) + 1024) * i.bytes ≤ 281474976710656 then some (.sl i.size new (.gr σ.nextT), σ.tok e) else none
      | .sl sz cs ap =>
       if sz = i.size ∧ (2 * ((cs.length + new.length) / i.size) + 1024) * i.bytes ≤ 281474976710656 then
        match ap with
        | .ex => some (.sl i.size (cs ++ new) (.gr σ.nextT), σ.tok e)
        | .gr id => if σ.live id = some e then some (.sl i.size (cs ++ new) (.gr σ.nextT), (σ.untok id).tok e) else none
        | .no => none
       else none
      | .ms b o len cap => match σ.cells b with
       | some (cs, _) =>
        if len = cap ∧ cap < Gl ∧ o + len * i.size ≤ cs.length ∧ (2 * (len + new.length / i.size) + 1024) * i.bytes ≤ 281474976710656 then
         some (.sl i.size ((cs.drop o).take (len * i.size) ++ new) (.gr σ.nextT), σ.tok e)
        else none
       | none => none
      | _ => none
     else none
    else none
   | none => none
  | none => none
 | _ => none
def Nm (P : Program) (t : TypeId) (s x : A) (σ : St) : Option (A × St) :=
 match s, Ic x, P.underlying t with
 | .v (.slice none 0 0), some n, some (.slice e) => match P.info? e with
  | some i => if i.size = 1 ∧ 0 < n ∧ n < 9223372036854775808 ∧ i.zero.isSome ∧ (i.zero.map (·.cells.size)) = some i.size ∧ 0 < i.bytes ∧ (2 * n + 1024) * i.bytes ≤ 140737488355328 then some (.raw σ.nextT n, σ.tok e) else none
  | none => none
 | _, _, _ => none
def Nn (P : Program) (t : TypeId) (s x : A) (σ : St) : Option (A × St) :=
 match P.underlying t with
 | some (.slice e) => match P.info? e with
  | some i => match Ai σ i.size x with
   | some new =>
    if 0 < i.size then
     if new = [] then (if Ty s then some (s, σ) else none) else
     if Bh new ∧ i.zero.isSome ∧ (i.zero.map (·.cells.size)) = some i.size ∧ 0 < i.bytes then
      match s with
      | .v (.slice none 0 0) =>
       if (2 * (new.length / i.size) + 1024) * i.bytes ≤ 281474976710656 then some (.ms σ.next 0 (new.length / i.size) (Gl + i.size), σ.push (.cells new (Hw + e))) else none
      | .sl sz [] .ex =>
       if sz = i.size ∧ (2 * (new.length / i.size) + 1024) * i.bytes ≤ 281474976710656 then some (.ms σ.next 0 (new.length / i.size) (Gl + i.size), σ.push (.cells new (Hw + e))) else none
      | .ms b 0 len cap => match σ.cells b with
       | some (cs, e') =>
        if cap = Gl + i.size ∧ e' = Hw + e ∧ len * i.size ≤ cs.length ∧ (2 * (len + new.length / i.size) + 1024) * i.bytes ≤ 281474976710656 then
         some (.ms σ.next 0 (len + new.length / i.size) (Gl + i.size), (σ.kill b).push (.cells (cs.take (len * i.size) ++ new) (Hw + e)))
        else if len = cap ∧ cap < Gl ∧ len * i.size ≤ cs.length ∧ (2 * (len + new.length / i.size) + 1024) * i.bytes ≤ 281474976710656 then
         some (.ms σ.next 0 (len + new.length / i.size) (Gl + i.size), σ.push (.cells (cs.take (len * i.size) ++ new) (Hw + e)))
        else none
       | none => none
      | _ => Bp P t s x σ
     else none
    else none
   | none => none
  | none => none
 | _ => none

end Go.DM
namespace Go.DM
open Go

def eqA (P : Program) (t : TypeId) (x y : A) : Option Bool :=
 match P.underlying t, x, y with
 | some (.slice _), .sl .., .v (.slice none 0 0) => some false
 | some (.slice _), .v (.slice none 0 0), .sl .. => some false
 | some (.slice _), .ms .., .v (.slice none 0 0) => some false
 | some (.pointer _), .ptr .., .v (.pointer none) => some false
 | some (.pointer _), .v (.pointer none), .ptr .. => some false
 | some (.pointer e), .ptr b o, .ptr b' o' => if b = b' then match Al P e with
   | some n => if n = 0 then none else some (o == o')
   | none => none
  else none
 | some (.map _ _), .mp _, .v (.map none) => some false
 | some (.map _ _), .v (.map none), .mp _ => some false
 | some (.func _ _ _), .fn .., .v .nilFunc => some false
 | some (.interface _), .ifc _ _, .v .nilIface => some false
 | some (.interface _), .v .nilIface, .ifc _ _ => some false
 | _, _, _ => none

def Eo (P : Program) (s : TypeId) (x : A) (f : Nat) : Option A :=
 match P.underlying s with
 | some (.struct fs) => match fs[f]? with
  | some fd => match Al P fd.type with
   | some n => if n = 0 then none else match x with
    | .ptr b o => some (.ptr b (o + fd.offset))
    | .sp cs o _ap => some (.sp cs (o + fd.offset) .no)
    | _ => none
   | none => none
  | none => none
 | _ => none

def B1 (P : Program) (t : TypeId) (x i : A) : Option A :=
 match i, P.underlying t with
 | .v (.int _ n), some (.slice e) => match Al P e with
  | some sz => match x with
   | .sl sz' cs _ => if sz' = sz ∧ 0 < sz ∧ 0 ≤ n ∧ n < (cs.length / sz : Nat) then some (.sp cs (n.toNat * sz) .no) else none
   | .ms b o len _ => if 0 ≤ n ∧ n < (len : Nat) then some (.ptr b (o + n.toNat * sz)) else none
   | _ => none
  | none => none
 | .v (.int _ n), some (.array len e) => match Al P e with
  | some sz => if 0 ≤ n ∧ n < (len : Nat) then match x with
    | .ptr b o => some (.ptr b (o + n.toNat * sz))
    | .sp cs o _ => some (.sp cs (o + n.toNat * sz) .no)
    | _ => none
   else none
  | none => none
 | _, _ => none

def Pa (P : Program) (t : TypeId) (cs : List A) (off : Nat) : Option A :=
 match Ef P t, P.info? t with
 | some true, some i => if off + i.size ≤ cs.length then some (.agg ((cs.drop off).take i.size)) else none
 | some false, _ => cs[off]?
 | _, _ => none

def Id (P : Program) (t : TypeId) (x : A) (f : Nat) : Option A :=
 match P.underlying t, x with
 | some (.struct fs), .agg cs => match fs[f]? with
  | some fd => Pa P fd.type cs fd.offset
  | none => none
 | _, _ => none

def Ie (P : Program) (t : TypeId) (x i : A) : Option A :=
 match i, P.underlying t, x with
 | .v (.int _ n), some (.array len e), .agg cs => match Al P e with
  | some sz => if 0 ≤ n ∧ n < (len : Nat) then Pa P e cs (n.toNat * sz) else none
  | none => none
 | _, _, _ => none

def Ci (P : Program) (t : TypeId) (x : A) (σ : St) : Option A :=
 match x with
 | .ptr b o => match σ.cells b with
  | some (cs, _) => loadAt P t cs o
  | none => none
 | .sp cs o _ => loadAt P t cs o
 | _ => none

def Fp (P : Program) (t : TypeId) (a x : A) (σ : St) : Option St :=
 match a with
 | .ptr b o => match σ.cells b, Al P t with
  | some (cs, e), some n => if x.cells.length = n ∧ Bh x.cells ∧ o + n ≤ cs.length then some (σ.put b (.cells (splice cs o x.cells) e)) else none
  | _, _ => none
 | _ => none

def Np (P : Program) (t : TypeId) (parts : List (Nat × A)) : Option A :=
 match P.underlying t, Fm P t with
 | some (.struct fs), some z => match Gp P fs.toList with
  | some ps => match lay (ps[·]?) z parts with
   | some cs => some (.agg cs)
   | none => none
  | none => none
 | some (.array _ e), some z => match Al P e with
  | some sz => match lay (fun i => some (i * sz, sz)) z parts with
   | some cs => some (.agg cs)
   | none => none
  | none => none
 | _, _ => none

def C7 (P : Program) (t : TypeId) (len : Nat) (parts : List (Nat × A)) : Option A :=
 match P.underlying t with
 | some (.slice e) => match Al P e with
  | some sz => if 0 < sz ∧ len * sz ≤ 16777216 then
    match (if len = 0 then some [] else Fm P e) with
    | some z => if len = 0 ∨ z.length = sz then match lay (fun i => some (i * sz, sz)) (rep len z) parts with
      | some cs => some (.sl sz cs .ex)
      | none => none
     else none
    | none => none
   else none
  | none => none
 | _ => none

def Gq (P : Program) (t : TypeId) (len : Nat) (parts : List (Nat × A)) (σ : St) : Option (A × St) :=
 match P.underlying t with
 | some (.slice e) => match C7 P t len parts with
  | some (.sl sz cs ap) => if len = 0 then some (.sl sz cs ap, σ) else if len < Gl then some (.ms σ.next 0 len len, σ.push (.cells cs e)) else none
  | _ => none
 | _ => none
def Ep (P : Program) (t : TypeId) (l c : A) (σ : St) : Option (A × St) :=
 match P.underlying t, Ic l, Ic c with
 | some (.slice e), some l, some c => match P.info? e with
  | some i => if l ≤ c ∧ i.bytes * c ≤ 140737488355328 ∧ c < 9223372036854775808 ∧ 0 < i.size then
    if l = 0 then match i.zero with
     | some _ => some (.sl i.size [] (.gr σ.nextT), σ.tok e)
     | none => none
    else match Fm P e with
    | some z => if z.length = i.size then some (.ms σ.next 0 l c, σ.push (.cells (rep c z) e)) else none
    | none => none
   else none
  | none => none
 | _, _, _ => none

def Fq (P : Program) (x : A) (asserted : TypeId) (commaOk : Bool) : Option A :=
 let holds (y : A) : Option A := some (if commaOk then .tup [y, .v (.bool true)] else y)
 let fails : Option A := if commaOk then match Kt P asserted with
  | some z => some (.tup [z, .v (.bool false)])
  | none => none
  else none
 match P.underlying asserted, x with
 | some (.interface _), .v .nilIface => fails
 | some (.interface want), .ifc t _ => match P.info? t with
  | some i => match Instr.missingMethod want i.methods with
   | none => holds x
   | some _ => fails
  | none => none
 | some _, .v .nilIface => fails
 | some _, .ifc t y => if t = asserted then holds y else fails
 | _, _ => none

def D8 (P : Program) (src dst : TypeId) (x : A) (σ : St) : Option (A × St) :=
 match P.underlying src, P.underlying dst, x with
 | some .string, some (.slice e), .v (.string s) => match P.underlying e, P.info? e with
  | some (.int .u8), some i => if i.size = 1 then some (.sl 1 (C6 s) .no, σ) else none
  | _, _ => none
 | some (.slice _e), some (.slice e'), .sl 1 _cs .ex => match P.underlying e' with
  | some (.int .u8) => if src = dst then some (x, σ) else none
  | _ => none
 | some (.slice e), some .string, .sl 1 cs _ => match P.underlying e, Dv cs with
  | some (.int .u8), some bs => some (.v (.string ⟨bs.toArray⟩), σ)
  | _, _ => none
 | some (.slice e), some .string, .ms b o len _ => match P.underlying e, σ.cells b with
  | some (.int .u8), some (cs, _) => if o + len ≤ cs.length then match Dv ((cs.drop o).take len) with
    | some bs => some (.v (.string ⟨bs.toArray⟩), σ)
    | none => none
   else none
  | _, _ => none
 | some (.pointer t), some .unsafePointer, .ptr b o => match Al P t, σ.cells b with
  | some n, some (cs, _) => if 0 < n ∧ o < cs.length then some (x, σ) else none
  | _, _ => none
 | some .unsafePointer, some (.pointer u), .ptr b o => match Al P u, σ.cells b with
  | some n, some (cs, e) => if 0 < n ∧ e < Hw ∧ liesAt P P.depth e (cs.length / P.cellsOf e) o u 1 then some (x, σ) else none
  | _, _ => none
 | _, _, _ => none

def Qz (P : Program) (t : TypeId) (d s : A) (σ : St) : Option (A × St) :=
 match P.underlying t with
 | some (.slice e) => match P.info? e with
  | some i => if 0 < i.size then match Ai σ i.size s with
   | some new => match d with
    | .ms b o len _ => match σ.cells b with
     | some (cs, e') =>
      let n := min (new.length / i.size) len
      if Bh new ∧ o + len * i.size ≤ cs.length then some (.v (.int .i64 (n : Nat)), σ.put b (.cells (splice cs o (new.take (n * i.size))) e')) else none
     | none => none
    | .v (.slice none 0 0) => some (.v (.int .i64 0), σ)
    | .sl _ _ _ => if new = [] then some (.v (.int .i64 0), σ) else none
    | _ => none
   | none => none
   else none
  | none => none
 | _ => none

def Ku (P : Program) (t : TypeId) (x : A) (σ : St) : Option Nat :=
 match P.underlying t, x with
 | some (.slice _), .sl sz cs _ => some (cs.length / sz)
 | some (.slice _), .ms _ _ len _ => some len
 | some (.map _ _), .mp b => match σ.blks.get b with
  | some (.map es _) => some es.length
  | _ => none
 | some (.array n _), _ => some n
 | _, _ => none

def Gr (x : A) : Option A := match x with
 | .sl _ cs ap => if 0 < cs.length then some (.sp cs 0 ap) else none
 | _ => none
def Eg (P : Program) (pt : TypeId) (x n : A) (σ : St) : Option A :=
 match x, Ic n, P.underlying pt with
 | .sp cs 0 (.gr id), some n, some (.pointer e) => match P.underlying e, P.info? e, σ.live id with
  | some (.int .u8), some i, some e' => if i.size = 1 ∧ e' = e ∧ 0 < n ∧ n ≤ cs.length ∧ n ≤ 9223372036854775807 then match Dv (cs.take n) with
    | some bs => some (.v (.string ⟨bs.toArray⟩))
    | none => none
   else none
  | _, _, _ => none
 | _, _, _ => none

def Dx : TypeDesc → Value → Value → Option Bool
 | .int _, .int k a, .int k' b => if k = k' then some (a == b) else none
 | .string, .string a, .string b => some (a == b)
 | .bool, .bool a, .bool b => some (a == b)
 | _, _, _ => none
def Ig (d : TypeDesc) (k : Value) : List (Value × A × Nat) → Nat → Option (Option (Nat × A × Nat))
 | [], _ => some none
 | (k', x, born) :: r, i => match Dx d k k' with
  | some true => some (some (i, x, born))
  | some false => Ig d k r (i + 1)
  | none => none
def G6 (P : Program) (t : TypeId) : Option (TypeDesc × TypeId) := match P.underlying t with
 | some (.map k e) => match P.underlying k with
  | some (.int i) => some (.int i, e)
  | some .string => some (.string, e)
  | some .bool => some (.bool, e)
  | _ => none
 | _ => none
def Kl (d : TypeDesc) (k : Value) : Bool := Dx d k k == some true

def Kv (P : Program) (t : TypeId) (m k : A) (ok : Bool) (σ : St) : Option A :=
 match G6 P t, k with
 | some (d, e), .v kv => if Kl d kv then
   match (match m with
    | .v (.map none) => some []
    | .mp b => match σ.blks.get b with
     | some (.map es _) => some es
     | _ => none
    | _ => none) with
   | some es => match Ig d kv es 0 with
    | some (some (_, x, _)) => some (if ok then .tup [x, .v (.bool true)] else x)
    | some none => match Kt P e with
     | some z => some (if ok then .tup [z, .v (.bool false)] else z)
     | none => none
    | none => none
   | none => none
  else none
 | _, _ => none

def Fs (es : List (Value × A × Nat)) (i : Nat) (k : Value) (x : A) : List (Value × A × Nat) := match es[i]? with
 | some (_, _, born) => es.set i (k, x, born)
 | none => es
def Kw (P : Program) (t : TypeId) (m k x : A) (σ : St) : Option St :=
 match G6 P t, m, k with
 | some (d, _), .mp b, .v kv => if Kl d kv then match σ.blks.get b with
   | some (.map es clock) => match Ig d kv es 0 with
    | some (some (i, _, _)) => some (σ.put b (.map (Fs es i kv x) clock))
    | some none => some (σ.put b (.map (es ++ [(kv, x, clock)]) (clock + 1)))
    | none => none
   | _ => none
  else none
 | _, _, _ => none
def Nq (P : Program) (t : TypeId) (m k : A) (σ : St) : Option (A × St) :=
 match G6 P t, m, k with
 | some (d, e), .mp b, .v kv => if Kl d kv then match σ.blks.get b with
   | some (.map es clock) => match Ig d kv es 0 with
    | some (some (i, x, born)) => some (.tup [x, .v (.int .i64 (born : Nat))], σ.put b (.map (Fs es i kv x) clock))
    | some none => match Kt P e with
     | some z => some (.tup [z, .v (.int .i64 (clock : Nat))], σ.put b (.map (es ++ [(kv, z, clock)]) (clock + 1)))
     | none => none
    | none => none
   | _ => none
  else none
 | _, _, _ => none
def Q0 (es : List (Value × A × Nat)) (n : Int) : Option Nat := es.findIdx? fun e => ((e.2.2 : Nat) : Int) == n
def Ft (m s x : A) (σ : St) : Option St :=
 match m, s with
 | .mp b, .v (.int _ n) => match σ.blks.get b with
  | some (.map es clock) => match Q0 es n with
   | some i => match es[i]? with
    | some (k, _, _) => some (σ.put b (.map (Fs es i k x) clock))
    | none => none
   | none => none
  | _ => none
 | _, _ => none
def Kx (P : Program) (t : TypeId) (m k : A) (σ : St) : Option St :=
 match G6 P t, m, k with
 | some (d, _), .mp b, .v kv => if Kl d kv then match σ.blks.get b with
   | some (.map es clock) => match Ig d kv es 0 with
    | some (some (i, _, _)) => some (σ.put b (.map (es.eraseIdx i) clock))
    | some none => some (σ.put b (.map es clock))
    | none => none
   | _ => none
  else none
 | _, _, _ => none

def Nr (P : Program) (t : TypeId) (x : A) (σ : St) : Option (A × St) :=
 match P.underlying t, x with
 | some .string, .v (.string s) => some (.ptr σ.next 0, σ.push (.siter s 0))
 | some (.map _ _), .mp b => match σ.blks.get b with
  | some (.map _ clock) => some (.ptr σ.next 0, σ.push (.miter b clock [] clock))
  | _ => none
 | _, _ => none
def Ns (σ : St) (b m since : Nat) (seen : List Nat) (last : Nat) (es : List (Value × A × Nat)) (clock : Nat) : Option (A × St) :=
 if !seen.isEmpty && !es.isEmpty && es.all (fun e => decide (last ≤ e.2.2)) then none else
 match es.filter (fun e => !seen.contains e.2.2) with
 | [] => some (.tup [.v (.bool false)], σ)
 | [e] => if e.2.2 < since then match Ee e.1 with
   | some a => some (.tup [.v (.bool true), a, e.2.1], σ.put b (.miter m since (seen ++ [e.2.2]) clock))
   | none => none
  else none
 | _ => none
def Q1 (x : A) (isString : Bool) (σ : St) : Option (A × St) :=
 match x, isString with
 | .ptr b 0, true => match σ.blks.get b with
  | some (.siter s pos) => if pos < s.size then
    some (.tup [.v (.bool true), .v (.int .i64 (pos : Nat)), .v (.int .i32 (Utf8.decode s pos).1)], σ.put b (.siter s (pos + (Utf8.decode s pos).2)))
   else some (.tup [.v (.bool false)], σ)
  | _ => none
 | .ptr b 0, false => match σ.blks.get b with
  | some (.miter m since seen last) => match σ.blks.get m with
   | some (.map es clock) => Ns σ b m since seen last es clock
   | _ => none
  | _ => none
 | _, _ => none

def Ja (x : A) (σ : St) : Option A :=
 match x with
 | .ptr b 0 => match σ.blks.get b with
  | some (.miter m _ seen stepped) => match σ.blks.get m, seen.getLast? with
   | some (.map es clock), some stamp => if clock = stepped then match es.find? (fun e => e.2.2 == stamp) with
     | some e => match Ee e.1 with
      | some a => some (.tup [a, e.2.1])
      | none => none
     | none => none
    else none
   | _, _ => none
  | _ => none
 | _ => none
def Ky (P : Program) (t : TypeId) (name : String) : Option FuncId := match P.info? t with
 | some i => match i.methods.find? (·.name == name) with
  | some m => if m.path.isEmpty then match m.func, P.underlying t with
   | some (f, true), some (.pointer _) => some f
   | some (_, false), some (.pointer _) => none
   | some (f, false), some _ => some f
   | _, _ => none
   else none
  | none => none
 | none => none

def Br (x : Option A) (σ : St) : Option R := match x with
 | some a => some (.val a σ)
 | none => none
def Ge (x : Option (A × St)) : Option R := match x with
 | some (a, σ) => some (.val a σ)
 | none => none
def Pb (x : Option St) : Option R := match x with
 | some σ => some (.skip σ)
 | none => none

def Gf (ρ : Operand → Option A) (x : Operand) : Value := match ρ x with
 | some a => (Bo a).getD undef
 | none => undef
def Kz (C : Cfg) (ρ : Operand → Option A) (o : Oper) (σ : St) : Option R :=
 match det C.P (execOp (Gf ρ) o) with
 | some (.value u) => match Ee u with
  | some a => some (.val a σ)
  | none => none
 | _ => none
def Az (ρ : Operand → Option A) (l : List Operand) : Bool := l.all fun x => match ρ x with
 | some a => (Bo a).isSome
 | none => false
def Ao (C : Cfg) (ρ : Operand → Option A) (o : Oper) (σ : St) : Option R :=
 if Az ρ o.op.operands.toList then Kz C ρ o σ else none

def Jb (C : Cfg) (f : FuncId) (args : List A) (σ : St) : Option R :=
 match C.P.funcs[f]? with
 | some fn => if fn.name = "runtime.NumGoroutine" then none else
  if fn.body.isSome then some (.call f args σ)
  else if fn.name = "internal/abi.NoEscape" ∧ fn.origin = "" then match args with
   | [x] => some (.val x σ)
   | _ => none
  else if fn.name = "internal/bytealg.MakeNoZero" ∧ fn.origin = "" then match args, fn.resultTypes.toList with
   | [.v (.int .i64 n)], [t] => match C.P.underlying t with
    | some (.slice e) => if 0 ≤ n ∧ n ≤ 281474976710656 ∧ Al C.P e = some 1 then some (.val (.raw σ.nextT n.toNat) (σ.tok e)) else none
    | _ => none
   | _, _ => none
  else none
 | none => none

def Nt : A → Bool
 | .junk => true
 | _ => false
def Cv (ρ : Operand → Option A) : List (Nat × Operand) → Option (List (Nat × A))
 | [] => some []
 | (i, x) :: r => match ρ x with
  | some a => if Nt a then none else match Cv ρ r with
   | some l => some ((i, a) :: l)
   | none => none
  | none => none
def C2 (ρ : Operand → Option A) : List Operand → Option (List A)
 | [] => some []
 | x :: r => match ρ x with
  | some a => match C2 ρ r with
   | some l => some (a :: l)
   | none => none
  | none => none
def E4 (ρ : Operand → Option A) : Option Operand → Option (Option A)
 | none => some none
 | some y => match ρ y with
  | some a => some (some a)
  | none => none
def Bd (C : Cfg) (ρ : Operand → Option A) (b : Builtin) (c : Call) (o : Oper) (σ : St) : Option R :=
 match b, c.args.toList with
 | .append, [s, x] => match ρ s, ρ x, c.argTypes[0]?, c.argTypes[1]? with
  | some s, some x, some t, some t' => match C.P.underlying t' with
   | some (.int _) => Ge (Nm C.P t s x σ)
   | some _ => Ge (if C.mutB t then Nn C.P t s x σ else Bp C.P t s x σ)
   | none => none
  | _, _, _, _ => none
 | .copy, [d, s] => match ρ d, ρ s, c.argTypes[0]? with
  | some d, some s, some t => Ge (Qz C.P t d s σ)
  | _, _, _ => none
 | .len, [x] => match ρ x, c.argTypes[0]? with
  | some x, some t => match Ku C.P t x σ with
   | some n => some (.val (.v (.int .i64 (n : Nat))) σ)
   | none => Ao C ρ o σ
  | _, _ => none
 | .recover, [] => some (.rcv σ)
 | .delete, [m, k] => match ρ m, ρ k, c.argTypes[0]? with
  | some m, some k, some t => match Kx C.P t m k σ with
   | some σ' => some (.val und σ')
   | none => none
  | _, _, _ => none
 | .unsafeSliceData, [x] => match ρ x with
  | some x => match Gr x with
   | some a => some (.val a σ)
   | none => Ao C ρ o σ
  | none => none
 | .unsafeString, [x, n] => match ρ x, ρ n, c.argTypes[0]? with
  | some x, some n, some t => match Eg C.P t x n σ with
   | some a => some (.val a σ)
   | none => Ao C ρ o σ
  | _, _, _ => none
 | .append, _ | .copy, _ | .clear, _ | .delete, _ | .close, _ | .print, _ | .println, _ | .panic, _ | .unsafeStringData, _ | .unsafeSlice, _ => none
 | _, _ => Ao C ρ o σ

def op (C : Cfg) (ρ : Operand → Option A) (o : Oper) (σ : St) : Option R :=
 match o.op with
 | .move x | .assign x => Br (ρ x) σ
 | .pick c a b => match ρ c with
  | some (.v (.bool t)) => Br (if t then ρ a else ρ b) σ
  | _ => none
 | .alloc e => match Fm C.P e with
  | some z => some (.val (.ptr σ.next 0) (σ.push (.cells z e)))
  | none => none
 | .box e x => match ρ x with
  | some a => if Bh a.cells then some (.val (.ptr σ.next 0) (σ.push (.cells a.cells e))) else none
  | none => none
 | .build t parts => match Cv ρ parts.toList with
  | some l => Br (Np C.P t l) σ
  | none => none
 | .buildSlice t len parts => match Cv ρ parts.toList with
  | some l => if C.mutB t then Ge (Gq C.P t len l σ) else Br (C7 C.P t len l) σ
  | none => none
 | .load t a => match ρ a with
  | some x => Br (Ci C.P t x σ) σ
  | none => none
 | .store t a x => match ρ a, ρ x with
  | some a, some x => Pb (Fp C.P t a x σ)
  | _, _ => none
 | .nilCheck x => match ρ x with
  | some (.v _) => none
  | some (.fn (.func f) u c) => some (.val (.fn (.func f) u c) σ)
  | some (.fn _ _ _) => none
  | some .junk => none
  | some a => some (.val a σ)
  | none => none
 | .binOp b t x y _ => match b, ρ x, ρ y with
  | .eql, some x', some y' => match eqA C.P t x' y' with
   | some r => some (.val (.v (.bool r)) σ)
   | none => Ao C ρ o σ
  | .neq, some x', some y' => match eqA C.P t x' y' with
   | some r => some (.val (.v (.bool (!r))) σ)
   | none => Ao C ρ o σ
  | _, _, _ => Ao C ρ o σ
 | .unOp .. => Ao C ρ o σ
 | .convert s d x => match ρ x with
  | some x' => match D8 C.P s d x' σ with
   | some (a, σ') => some (.val a σ')
   | none => Ao C ρ o σ
  | none => none
 | .makeInterface t x => match ρ x, C.P.underlying t with
  | some _, some (.interface _) => none
  | some a, some _ => some (.val (.ifc t a) σ)
  | _, _ => none
 | .makeFunc f first cap => match C2 ρ first.toList, C2 ρ cap.toList with
  | some l, some c => some (.val (.fn f l c) σ)
  | _, _ => none
 | .makeSlice t l c => match ρ l, ρ c with
  | some l, some c => Ge (Ep C.P t l c σ)
  | _, _ => none
 | .slice t x lo hi none => match ρ x, E4 ρ lo, E4 ρ hi with
  | some x', some l, some h => match Dw C.P t x' l h σ with
   | some (a, σ') => some (.val a σ')
   | none => Ao C ρ o σ
  | _, _, _ => none
 | .fieldAddr s x f => match ρ x with
  | some a => Br (Eo C.P s a f) σ
  | none => none
 | .field t x f => match ρ x with
  | some a => Br (Id C.P t a f) σ
  | none => none
 | .indexAddr t x i => match ρ x, ρ i with
  | some a, some i => Br (B1 C.P t a i) σ
  | _, _ => none
 | .index t x i => match ρ x, ρ i with
  | some a, some i' => match Ie C.P t a i' with
   | some r => some (.val r σ)
   | none => Ao C ρ o σ
  | _, _ => none
 | .typeAssert x _ t ok => match ρ x with
  | some a => Br (Fq C.P a t ok) σ
  | none => none
 | .extract x i => match ρ x with
  | some (.tup vs) => Br vs[i]? σ
  | _ => none
 | .call c => match c.callee with
  | .value f => match ρ f, C2 ρ c.args.toList with
   | some (.fn (.func g) first cap), some as =>
    match Jb C g (first ++ as ++ cap) σ with
    | some r => some r
    | none => Ao C ρ o σ
   | _, _ => none
  | .builtin b => Bd C ρ b c o σ
  | .invoke x name => match ρ x, C2 ρ c.args.toList with
   | some (.ifc t y), some as => match Ky C.P t name with
    | some f => Jb C f (y :: as) σ
    | none => none
   | _, _ => none
 | .defer c => match c.callee with
  | .value f => match ρ f, C2 ρ c.args.toList with
   | some (.fn (.func g) first cap), some as => some (.dfr g (first ++ as ++ cap) σ)
   | _, _ => none
  | _ => none
 | .makeMap _ none => some (.val (.mp σ.next) (σ.push (.map [] 0)))
 | .lookup t m k ok => match ρ m, ρ k with
  | some m, some k => Br (Kv C.P t m k ok σ) σ
  | _, _ => none
 | .mapUpdate t m k x | .insert t m k x => match ρ m, ρ k, ρ x with
  | some m, some k, some x => Pb (Kw C.P t m k x σ)
  | _, _, _ => none
 | .mapEntry t m k => match ρ m, ρ k with
  | some m, some k => Ge (Nq C.P t m k σ)
  | _, _ => none
 | .entryStore _ m s x => match ρ m, ρ s, ρ x with
  | some m, some s, some x => Pb (Ft m s x σ)
  | _, _, _ => none
 | .range t x => match ρ x with
  | some x => Ge (Nr C.P t x σ)
  | none => none
 | .next x isS => match ρ x with
  | some x => Ge (Q1 x isS σ)
  | none => none
 | .entry x => match ρ x with
  | some x => Br (Ja x σ) σ
  | none => none
 | .panic x => match ρ x with
  | some (.ifc t a) => some (.pan (.ifc t a) σ)
  | _ => none
 | _ => none

inductive X where
 | normal
 | exit (id : Nat)
 | ret
 | pan (x : A)

inductive Out where
 | ret (x : A)
 | pan (x : A)

def C8 (ops : Array Oper) (φ : Fr) (j : Nat) : Option (Option Bool) :=
 match (ops[j]?).bind (·.dst) with
 | some d => match φ.s.get d with
  | some (.v (.bool b)) => some (some b)
  | some .junk => none
  | some _ => some none
  | none => none
 | none => some none

def Ae (ops : Array Oper) (φ : Fr) (o : Oper) : Option Bool := match o.guard with
 | none => some true
 | some (j, want) => match C8 ops φ j with
  | some y => some (y == some want)
  | none => none

def Bb (n : Nat) (φ : Fr) (d : Option Tmp) (x : A) : Option Fr := match d with
 | none => some φ
 | some t => if t < n then some (φ.set t x) else none

abbrev CallF := FuncId → List A → St → Option (Out × St)

def Aw (C : Cfg) (callF : CallF) (n : Nat) (ops : Array Oper) : List Oper → Fr → St → Option (X × Fr × St)
 | [], φ, σ => some (.normal, φ, σ)
 | o :: r, φ, σ => match Ae ops φ o with
  | some true => match op C (ev C φ) o σ with
   | some (.val x σ') => match Bb n φ o.dst x with
    | some φ' => Aw C callF n ops r φ' σ'
    | none => none
   | some (.skip σ') => match Bb n φ o.dst und with
    | some φ' => Aw C callF n ops r φ' σ'
    | none => none
   | some (.call f args σ') => match callF f args σ' with
    | some (.ret x, σ'') => match Bb n φ o.dst x with
     | some φ' => Aw C callF n ops r φ' σ''
     | none => none
    | some (.pan x, σ'') => some (.pan x, φ, σ'')
    | none => none
   | some (.dfr f args σ') => match Bb n { φ with ds := (f, args) :: φ.ds } o.dst und with
    | some φ' => Aw C callF n ops r φ' σ'
    | none => none
   | some (.pan x σ') => some (.pan x, φ, σ')
   | _ => none
  | some false => match Bb n φ o.dst und with
   | some φ' => Aw C callF n ops r φ' σ
   | none => none
  | none => none

def opQ (C : Cfg) (ρ : Operand → Option A) (o : Oper) (σ : St) : Option A :=
 match o.op with
 | .move _ | .assign _ | .pick .. | .build .. | .load .. | .nilCheck _ | .unOp .. | .binOp .. | .makeInterface .. | .makeFunc .. | .fieldAddr .. | .field .. | .indexAddr .. | .index .. | .typeAssert .. | .extract .. | .lookup .. | .convert .. => match op C ρ o σ with
  | some (.val x _) => some x
  | _ => none
 | .buildSlice t _ _ => if C.mutB t then none else match op C ρ o σ with
  | some (.val x _) => some x
  | _ => none
 | .slice _ x _ _ _ => match ρ x with
  | some (.ms ..) => none
  | _ => match op C ρ o σ with
   | some (.val x _) => some x
   | _ => none
 | .call c => match c.callee with
  | .builtin b => match b with
   | .len | .cap | .min | .max | .unsafeSliceData => match op C ρ o σ with
    | some (.val x _) => some x
    | _ => none
   | _ => none
  | _ => none
 | _ => none
def isQuiet (C : Cfg) (o : Oper) : Bool := match o.op with
 | .buildSlice t _ _ => !C.mutB t
 | .move _ | .assign _ | .pick .. | .build .. | .load .. | .nilCheck _ | .unOp .. | .binOp .. | .makeInterface .. | .makeFunc .. | .fieldAddr .. | .field .. | .indexAddr .. | .index .. | .typeAssert .. | .extract .. | .lookup .. | .convert .. | .slice .. => true
 | .call c => match c.callee with
  | .builtin b => match b with
   | .len | .cap | .min | .max | .unsafeSliceData => true
   | _ => false
  | _ => false
 | _ => false
def bfr (bef : Array Nat) (i j : Nat) : Bool := (bef.getD j 0).testBit i
def Cd (ops : Array Oper) (o : Oper) : List Tmp :=
 (o.op.operands.toList.filterMap fun | .tmp t => some t | _ => none) ++ o.dst.toList ++ (match o.guard with | some (j, _) => ((ops[j]?).bind (·.dst)).toList | none => [])
def Nu (o : Oper) : Bool := match o.op with
 | .alloc _ => true
 | _ => false
def Mp (o : Oper) : Bool := match o.op with
 | .alloc _ | .box .. | .makeSlice .. | .makeMap .. => true
 | _ => false
def Dy (C : Cfg) (ops : Array Oper) (bef : Array Nat) (j : Nat) : Bool := match ops[j]? with
 | some o => Mp o && (List.range ops.size).all fun p => match ops[p]? with
   | some q => decide (p ≤ j) || (match o.dst with
     | some d => !(Cd ops q).contains d || (List.range j).all fun i => match ops[i]? with
       | some r => isQuiet C r || bfr bef i p
       | none => false
     | none => true)
   | none => false
 | none => false
def C9 (C : Cfg) (ops : Array Oper) (bef : Array Nat) : Bool :=
 (List.range ops.size).all fun j => match ops[j]? with
  | none => false
  | some o => (o.after.all fun e => !Region.binds .any e || e.on < j) &&
   (List.range ops.size).all fun i => match ops[i]? with
    | none => false
    | some p => i == j || ((isQuiet C p || isQuiet C o || bfr bef i j || bfr bef j i || (decide (i < j) && Dy C ops bef j) || (decide (j < i) && Dy C ops bef i)) &&
      (match p.dst with
       | some d => !(Cd ops o).contains d || bfr bef i j || bfr bef j i
       | none => true))

def Gg (C : Cfg) (ρ : Operand → Option A) (o : Oper) : Bool := match o.op with
 | .buildSlice t _ _ => !C.mutB t
 | .move _ | .assign _ | .pick .. | .build .. | .nilCheck _ | .unOp .. | .binOp .. | .makeInterface .. | .makeFunc .. | .fieldAddr .. | .field .. | .indexAddr .. | .index .. | .typeAssert .. | .extract .. => true
 | .load _ a => match ρ a with
  | some (.sp ..) => true
  | _ => false
 | .call c => match c.callee, c.args.toList with
  | .builtin .len, [x] => match ρ x with
   | some (.sl ..) | some (.v _) | some (.ms ..) => true
   | _ => false
  | _, _ => false
 | _ => false
open Classical in
noncomputable def A.same (y x : A) : Bool := A.beq y x || decide (y = x)
noncomputable def sameA (C : Cfg) (φ : Fr) (o : Oper) (σ : St) (x : A) : Bool := Gg C (ev C φ) o || match opQ C (ev C φ) o σ with
 | some y => A.same y x
 | none => false
noncomputable def Da (C : Cfg) (bef : Array Nat) (φ : Fr) (o : Oper) (j : Nat) (x : A) (l : List (Nat × St)) : Bool :=
 l.all fun (i, σ) => bfr bef i j || sameA C φ o σ x
noncomputable def Dz (C : Cfg) (bef : Array Nat) (i : Nat) (σ : St) (l : List (Nat × Fr × Oper × A)) : Bool :=
 l.all fun (j, φ, o, x) => bfr bef j i || sameA C φ o σ x

def A5 (C : Cfg) (callF : CallF) (φ : Fr) (o : Oper) (σ : St) : Option (A × St) := match op C (ev C φ) o σ with
 | some (.val x σ') => some (x, σ')
 | some (.skip σ') => some (und, σ')
 | some (.call f args σ') => match callF f args σ' with
  | some (.ret x, σ'') => some (x, σ'')
  | _ => none
 | _ => none

noncomputable def Gs (C : Cfg) (callF : CallF) (n : Nat) (ops : Array Oper) (bef : Array Nat) : List Oper → Nat → Fr → St → List (Nat × St) → List (Nat × Fr × Oper × A) → Option (X × Fr × St)
 | [], _, φ, σ, _, _ => some (.normal, φ, σ)
 | o :: r, j, φ, σ, past, pend => match Ae ops φ o with
  | some true =>
   if isQuiet C o then match opQ C (ev C φ) o σ with
    | some x => if Da C bef φ o j x past then match Bb n φ o.dst x with
      | some φ' => Gs C callF n ops bef r (j + 1) φ' σ past ((j, φ, o, x) :: pend)
      | none => none
     else none
    | none => none
   else match A5 C callF φ o σ with
    | some (x, σ') => if Dz C bef j σ' pend then match Bb n φ o.dst x with
      | some φ' => Gs C callF n ops bef r (j + 1) φ' σ' ((j, σ) :: past) pend
      | none => none
     else none
    | none => none
  | some false => match Bb n φ o.dst und with
   | some φ' => Gs C callF n ops bef r (j + 1) φ' σ past pend
   | none => none
  | none => none

def Fu (C : Cfg) (callF : CallF) (φ : Fr) (o : Oper) (σ : St) : Option (A × St) := match op C (ev C φ) o σ with
 | some (.call f args σ') => match callF f args σ' with
  | some (.pan v, σ'') => some (v, σ'')
  | _ => none
 | _ => none
def J2 (φ : Fr) (o : Oper) : Fr := match o.dst with
 | some d => φ.set d .junk
 | none => φ
def Hn (l : List Oper) (φ : Fr) : Fr := l.foldl J2 φ
def Jc (C : Cfg) (o : Oper) : Bool := match o.op with
 | .alloc t => (Fm C.P t).isSome
 | _ => false
noncomputable def Gt (C : Cfg) (n : Nat) (ops : Array Oper) (bef : Array Nat) (p : Nat) : List Oper → Nat → Fr → St → List (Nat × St) → Bool
 | [], _, _, _, _ => true
 | o :: r, j, φ, σ, past => if bfr bef p j then match Bb n φ o.dst .junk with
   | some φ' => Gt C n ops bef p r (j + 1) φ' σ ((j, σ) :: past)
   | none => false
  else match Ae ops φ o with
   | some true => if isQuiet C o then match opQ C (ev C φ) o σ with
     | some x => if Da C bef φ o j x past then match Bb n φ o.dst x with
       | some φ' => Gt C n ops bef p r (j + 1) φ' σ past
       | none => false
      else false
     | none => false
    else if Jc C o then match Bb n φ o.dst .junk with
     | some φ' => Gt C n ops bef p r (j + 1) φ' σ past
     | none => false
    else false
   | some false => match Bb n φ o.dst und with
    | some φ' => Gt C n ops bef p r (j + 1) φ' σ past
    | none => false
   | none => false
noncomputable def B9 (C : Cfg) (callF : CallF) (n : Nat) (ops : Array Oper) (bef : Array Nat) : List Oper → Nat → Fr → St → List (Nat × St) → List (Nat × Fr × Oper × A) → Option (X × Fr × St)
 | [], _, φ, σ, _, _ => some (.normal, φ, σ)
 | o :: r, j, φ, σ, past, pend => match Ae ops φ o with
  | some true =>
   if isQuiet C o then match opQ C (ev C φ) o σ with
    | some x => if Da C bef φ o j x past then match Bb n φ o.dst x with
      | some φ' => B9 C callF n ops bef r (j + 1) φ' σ past ((j, φ, o, x) :: pend)
      | none => none
     else none
    | none => none
   else match A5 C callF φ o σ with
    | some (x, σ') => if Dz C bef j σ' pend then match Bb n φ o.dst x with
      | some φ' => B9 C callF n ops bef r (j + 1) φ' σ' ((j, σ) :: past) pend
      | none => none
     else none
    | none => match Fu C callF φ o σ with
     | some (v, σ'') => match Bb n φ o.dst .junk with
      | some φ' => if Gt C n ops bef j r (j + 1) φ' σ ((j, σ) :: past) then some (.pan v, Hn ops.toList φ, σ'') else none
      | none => none
     | none => none
  | some false => match Bb n φ o.dst und with
   | some φ' => B9 C callF n ops bef r (j + 1) φ' σ past pend
   | none => none
  | none => none
theorem Ih {C : Cfg} {callF : CallF} {n : Nat} {ops : Array Oper} {bef : Array Nat} : ∀ {l : List Oper} {j : Nat} {φ : Fr} {σ : St} {past : List (Nat × St)} {pend : List (Nat × Fr × Oper × A)} {r : X × Fr × St},
  Gs C callF n ops bef l j φ σ past pend = some r → B9 C callF n ops bef l j φ σ past pend = some r
 | [], j, φ, σ, past, pend, r, h => by simp only [Gs] at h; simp only [B9]; exact h
 | o :: l, j, φ, σ, past, pend, r, h => by
  simp only [Gs] at h
  simp only [B9]
  split at h
  ·rename_i hw
   try simp only [hw]
   split at h
   ·rename_i hq
    try rw [if_pos hq]
    split at h
    case h_2 => cases h
    rename_i x hx
    try simp only [hx]
    split at h
    case isFalse => cases h
    rename_i hst
    try rw [if_pos hst]
    split at h
    case h_2 => cases h
    rename_i φ' hp
    try rw [hp]
    exact Ih h
   ·rename_i hq
    try rw [if_neg hq]
    split at h
    case h_2 => cases h
    rename_i x σ' hx
    try simp only [hx]
    split at h
    case isFalse => cases h
    rename_i hst
    try rw [if_pos hst]
    split at h
    case h_2 => cases h
    rename_i φ' hp
    try rw [hp]
    exact Ih h
  ·rename_i hw
   try simp only [hw]
   split at h
   case h_2 => cases h
   rename_i φ' hp
   try rw [hp]
   exact Ih h
  ·cases h

def Uw (s : A) (sz : Nat) : Option Nat := match s with
 | .v (.slice none 0 0) => some 0
 | .sl sz' cs _ => if sz' = sz then some (cs.length / sz) else none
 | _ => none

structure Pc where
 c : Call
 s : Tmp
 z : Tmp
 ti : Tmp
 tv : Tmp
 x : Tmp
 ta : Tmp
 tp : Tmp
 tb : Tmp
 t1 : TypeId
 e : TypeId
 st : TypeId
 f : Nat
 t2 : TypeId
def Q2 (o : Oper) : Option (Call × Tmp × Tmp × Tmp) := match o.op, o.dst, o.guard with
 | .call c, some ta, none => match c.callee, c.args.toList with
  | .builtin .append, [.tmp s, .tmp z] => some (c, s, z, ta)
  | _, _ => none
 | _, _, _ => none
def Q3 (o : Oper) : Option (TypeId × Tmp × Tmp × Tmp) := match o.op, o.dst, o.guard with
 | .indexAddr t (.tmp a) (.tmp i), some p, none => some (t, a, i, p)
 | _, _, _ => none
def Nv (o : Oper) : Option (TypeId × Tmp × Tmp) := match o.op, o.dst, o.guard with
 | .store t (.tmp p) (.tmp v), none, none => some (t, p, v)
 | _, _, _ => none
def Q4 (o : Oper) : Option (TypeId × Tmp × Nat × Tmp) := match o.op, o.dst, o.guard with
 | .fieldAddr t (.tmp x) f, some b, none => some (t, x, f, b)
 | _, _, _ => none
def Sl (l : List Oper) : Option Pc := match l with
 | [o0, o1, o2, o3, o4] => match Q2 o0, Q3 o1, Nv o2, Q4 o3, Nv o4 with
  | some (c, s, z, ta), some (t1, ta1, ti, tp), some (e, tp1, tv), some (st, x, f, tb), some (t2, tb1, ta2) =>
   if ta1 = ta ∧ ta2 = ta ∧ tp1 = tp ∧ tb1 = tb ∧ ta ≠ ti ∧ ta ≠ tv ∧ ta ≠ x ∧ ta ≠ tp ∧ ta ≠ tb ∧ tp ≠ x ∧ tp ≠ tb ∧ tp ≠ tv ∧ tb ≠ ti ∧ tb ≠ tv ∧ tp ≠ ti ∧ tb ≠ x then
    some ⟨c, s, z, ti, tv, x, ta, tp, tb, t1, e, st, f, t2⟩
   else none
  | _, _, _, _, _ => none
 | _ => none
def Ux (ops : Array Oper) (bef : Array Nat) (m : Nat) : Bool :=
 ((List.range ops.size).all fun j => match ops[j]? with
   | none => false
   | some o => (o.after.all fun e => !Region.binds .any e || e.on < j) && (decide (m ≤ j) || o.guard.isNone)) &&
 ((List.range ops.size).all fun j => decide (j < m) || (List.range m).all fun p => bfr bef p j) &&
 bfr bef m (m + 1) && bfr bef m (m + 2) && bfr bef m (m + 3) && bfr bef m (m + 4) && bfr bef (m + 1) (m + 2) && bfr bef (m + 3) (m + 4)
def Sm (C : Cfg) (n : Nat) (p : Pc) (s z ti v x : A) (σ : St) : Option (A × A × St) :=
 match z, ti, x with
 | .sl sz zs _, .v (.int _ len), .ptr b o =>
  match p.c.argTypes[0]?, p.c.argTypes[1]? with
  | some t, some t' => match C.P.underlying t, C.P.underlying t', C.P.underlying p.t1 with
   | some (.slice e), some (.slice _), some (.slice e1) =>
    if Al C.P e = some sz ∧ Al C.P e1 = some sz ∧ Al C.P p.e = some sz ∧ zs.length = sz ∧ Bh zs = true ∧ v.cells.length = sz ∧ Bh v.cells = true ∧ 0 ≤ len ∧ Uw s sz = some len.toNat ∧ p.ta < n ∧ p.tp < n ∧ p.tb < n then
     match Bp C.P t s (.sl sz v.cells .no) σ with
     | some (a, σ2) => match Eo C.P p.st (.ptr b o) p.f with
      | some (.ptr b' o') => match Fp C.P p.t2 (.ptr b' o') a σ2 with
       | some σ3 => some (a, .ptr b' o', σ3)
       | none => none
      | _ => none
     | none => none
    else none
   | _, _, _ => none
  | _, _ => none
 | _, _, _ => none
def Eh (C : Cfg) (n : Nat) (p : Pc) (φ : Fr) (σ : St) : Option (X × Fr × St) :=
 match φ.s.get p.s, φ.s.get p.z, φ.s.get p.ti, φ.s.get p.tv, φ.s.get p.x with
 | some s, some z, some ti, some v, some x => match Sm C n p s z ti v x σ with
  | some (a, y, σ3) => some (.normal, ((φ.set p.ta a).set p.tp .junk).set p.tb y, σ3)
  | none => none
 | _, _, _, _, _ => none
def Tz (ρ : Nat → Nat) (o : Oper) : Oper := { o with after := o.after.map fun e => { e with on := ρ e.on }, guard := o.guard.map fun g => (ρ g.1, g.2) }
def Sn (ops : Array Oper) (bef : Array Nat) : List Nat :=
 let r := (List.range ops.size).foldl (fun (s : List Nat × List Nat) j =>
  let go := s.2.filter fun i => bfr bef i j
  let st := s.2.filter fun i => !bfr bef i j
  match ops[j]? with
  | some o => if Mp o then (s.1 ++ go, st ++ [j]) else (s.1 ++ go ++ [j], st)
  | none => (s.1 ++ go ++ [j], st)) ([], [])
 r.1 ++ r.2
def So (N : Nat) (l : List Nat) (i : Nat) : Nat := if i < N then l.idxOf i else i
def Uy (N : Nat) (l : List Nat) : Bool := Nat.beq l.length N && ((List.range N).all fun i => l.contains i) && (List.range N).all fun j => match l[j]? with
 | some i => decide (i < N) && Nat.beq (l.idxOf i) j
 | none => false
def Q5 (C : Cfg) (ops : Array Oper) : Option (Array Oper) :=
 let l := Sn ops (Region.before ops)
 let ops' := (l.map fun i => Tz (So ops.size l) (ops.getD i default)).toArray
 if Uy ops.size l && C9 C ops' (Region.before ops') then some ops' else none
def Q6 (o : Oper) : Bool := match o.op with
 | .makeSlice .. => true
 | _ => false
def W5 (ops : Array Oper) (j : Nat) (t : Tmp) : Bool := match ops[j]? with
 | some q => Q6 q && q.guard.isNone && q.dst == some t && (List.range ops.size).all fun i => i == j || match ops[i]? with
  | some r => r.dst != some t
  | none => true
 | none => false
def Abw (ops : Array Oper) (o : Oper) (x : Operand) : Option Value := match x with
 | .const v => some v
 | .tmp t => if o.after.any fun e => Region.binds .any e && W5 ops e.on t then some undef else none
 | _ => none
def Pd (ops : Array Oper) (o : Oper) : List (Nat × Operand) → Option (List (Nat × Value))
 | [] => some []
 | (i, x) :: r => match Abw ops o x, Pd ops o r with
  | some v, some l => some ((i, v) :: l)
  | _, _ => none
def Uz (P : Program) (ops : Array Oper) (o : Oper) : Bool := o.guard.isNone && match o.op with
 | .build t parts => match P.underlying t, (P.info? t).bind (·.zero) with
  | some (.struct fs), some z => match Gp P fs.toList, Pd ops o parts.toList with
   | some ps, some l => (Instr.fill (ps[·]?) z.cells l).isSome
   | _, _ => false
  | _, _ => false
 | _ => false
def E5 (C : Cfg) (ops : Array Oper) (bef : Array Nat) (p : Nat) : List Nat := (List.range ops.size).filter fun i => match ops[i]? with
 | some r => !isQuiet C r && !bfr bef i p && !bfr bef p i && decide (i < p)
 | none => false
def Nw (C : Cfg) (ops : Array Oper) (p : Nat) : Option (Array Oper) := match ops[p]? with
 | some o =>
  let bef := Region.before ops
  let B := E5 C ops bef p
  if !B.isEmpty && Uz C.P ops o && Region.noSelect ops && ((List.range ops.size).all fun j => match ops[j]? with
    | some q => q.after.all fun e => !Region.binds .any e || e.on < j
    | none => false) && (List.range ops.size).all fun i => i == p || match ops[i]? with
    | some q => (!(q.after.any fun e => Region.binds .any e && e.on == p) && o.apart ops q) || bfr bef i p || B.all fun b => bfr bef b i
    | none => true
  then some (ops.setIfInBounds p { o with after := o.after ++ (B.map fun b => (⟨b, .data⟩ : Edge)).toArray }) else none
 | none => none
def G7 (C : Cfg) : List Nat → Array Oper → Array Oper
 | [], ops => ops
 | p :: r, ops => G7 C r ((Nw C ops p).getD ops)
noncomputable def Km (C : Cfg) (callF : CallF) (n : Nat) (ops : Array Oper) (φ : Fr) (σ : St) : Option (X × Fr × St) :=
 let ops' := G7 C (List.range ops.size).reverse ops
 if C9 C ops' (Region.before ops') then match B9 C callF n ops' (Region.before ops') ops'.toList 0 φ σ [] [] with
  | some (.normal, φ', σ') => some (.normal, φ', σ')
  | _ => none
 else none
noncomputable def Nx (C : Cfg) (callF : CallF) (n : Nat) (ops : Array Oper) (φ : Fr) (σ : St) : Option (X × Fr × St) := match Q5 C ops with
 | some ops' => B9 C callF n ops' (Region.before ops') ops'.toList 0 φ σ [] []
 | none => Km C callF n ops φ σ
noncomputable def Ny (C : Cfg) (callF : CallF) (n : Nat) (ops : Array Oper) (φ : Fr) (σ : St) : Option (X × Fr × St) :=
 match Sl (ops.toList.drop (ops.size - 5)) with
 | some p =>
  if Ux ops (Region.before ops) (ops.size - 5) && C9 C (ops.toList.take (ops.size - 5)).toArray (Region.before (ops.toList.take (ops.size - 5)).toArray) then
   match Gs C callF n (ops.toList.take (ops.size - 5)).toArray (Region.before (ops.toList.take (ops.size - 5)).toArray) (ops.toList.take (ops.size - 5)).toArray.toList 0 φ σ [] [] with
   | some (.normal, φ1, σ1) => Eh C n p φ1 σ1
   | _ => none
  else none
 | none => Nx C callF n ops φ σ
noncomputable def Db (C : Cfg) (callF : CallF) (n : Nat) (ops : Array Oper) (φ : Fr) (σ : St) : Option (X × Fr × St) :=
 if C9 C ops (Region.before ops) then B9 C callF n ops (Region.before ops) ops.toList 0 φ σ [] [] else Ny C callF n ops φ σ

noncomputable def A3 (C : Cfg) (callF : CallF) (n : Nat) : Nat → Code → Fr → St → Option (X × Fr × St)
 | 0, _, _, _ => none
 | k + 1, c, φ, σ => match c with
  | .skip => some (.normal, φ, σ)
  | .region _ ops false => Aw C callF n ops ops.toList φ σ
  | .region _ ops true => Db C callF n ops φ σ
  | .seq a b => match A3 C callF n k a φ σ with
   | some (.normal, φ', σ') => A3 C callF n k b φ' σ'
   | r => r
  | .cond x a b => match ev C φ x with
   | some (.v (.bool t)) => A3 C callF n k (if t then a else b) φ σ
   | _ => none
  | .block id a => match A3 C callF n k a φ σ with
   | some (.exit j, φ', σ') => if j = id then some (.normal, φ', σ') else some (.exit j, φ', σ')
   | r => r
  | .loop a => match A3 C callF n k a φ σ with
   | some (.normal, φ', σ') => A3 C callF n k (.loop a) φ' σ'
   | r => r
  | .exit id => some (.exit id, φ, σ)
  | .ret => some (.ret, φ, σ)
  | _ => none

def Ce (C : Cfg) (callF : CallF) (n : Nat) (ops : Array Oper) : List Oper → Fr → St → Option A → Option (X × Fr × St × Option A)
 | [], φ, σ, p => some (.normal, φ, σ, p)
 | o :: r, φ, σ, p => match Ae ops φ o with
  | some true => match op C (ev C φ) o σ with
   | some (.val x σ') => match Bb n φ o.dst x with
    | some φ' => Ce C callF n ops r φ' σ' p
    | none => none
   | some (.skip σ') => match Bb n φ o.dst und with
    | some φ' => Ce C callF n ops r φ' σ' p
    | none => none
   | some (.call f args σ') => match callF f args σ' with
    | some (.ret x, σ'') => match Bb n φ o.dst x with
     | some φ' => Ce C callF n ops r φ' σ'' p
     | none => none
    | _ => none
   | some (.rcv σ') => match Bb n φ o.dst (p.getD (.v .nilIface)) with
    | some φ' => Ce C callF n ops r φ' σ' none
    | none => none
   | _ => none
  | some false => match Bb n φ o.dst und with
   | some φ' => Ce C callF n ops r φ' σ p
   | none => none
  | none => none

noncomputable def Dp (C : Cfg) (callF : CallF) (n : Nat) : Nat → Code → Fr → St → Option A → Option (X × Fr × St × Option A)
 | 0, _, _, _, _ => none
 | k + 1, c, φ, σ, p => match c with
  | .region _ ops false => Ce C callF n ops ops.toList φ σ p
  | .seq a b => match Dp C callF n k a φ σ p with
   | some (.normal, φ', σ', p') => Dp C callF n k b φ' σ' p'
   | r => r
  | .cond x a b => match ev C φ x with
   | some (.v (.bool t)) => Dp C callF n k (if t then a else b) φ σ p
   | _ => none
  | c => match A3 C callF n (k + 1) c φ σ with
   | some (.normal, φ', σ') => some (.normal, φ', σ', p)
   | some (.ret, φ', σ') => some (.ret, φ', σ', p)
   | _ => none

def E6 : Nat → List A → Tr A
 | _, [] => .nil
 | i, a :: r => Tr.set (E6 (i + 1) r) i a

def B0 (C : Cfg) (φ : Fr) (σ : St) : List ResultVar → Option (List A)
 | [] => some []
 | .tmp t :: r => match φ.s.get t, B0 C φ σ r with
  | some x, some l => some (x :: l)
  | _, _ => none
 | .cell a t :: r => match φ.s.get a with
  | some p => match Ci C.P t p σ, B0 C φ σ r with
   | some x, some l => some (x :: l)
   | _, _ => none
  | none => none
def An : List A → A
 | [x] => x
 | l => .tup l

noncomputable def Mq (C : Cfg) (callF : CallF) (k : Nat) (f : FuncId) (args : List A) (σ : St) (p : Option A) : Option (St × Option A) :=
 match C.P.funcs[f]? with
 | some fn => match fn.body with
  | some c => if args.length ≤ fn.ntmps ∧ fn.name ≠ "runtime.NumGoroutine" then
    match Dp C callF fn.ntmps k c ⟨E6 0 args, []⟩ σ p with
    | some (.normal, φ, σ', p') | some (.ret, φ, σ', p') => match φ.ds, B0 C φ σ' fn.results.toList with
     | [], some _ => some (σ', p')
     | _, _ => none
    | _ => none
   else none
  | none => none
 | none => none

noncomputable def Bx (C : Cfg) (callF : CallF) (k : Nat) : List (FuncId × List A) → St → Option A → Option (St × Option A)
 | [], σ, p => some (σ, p)
 | (f, args) :: r, σ, p => match Mq C callF k f args σ p with
  | some (σ', p') => Bx C callF k r σ' p'
  | none => none

noncomputable def call (C : Cfg) : Nat → FuncId → List A → St → Option (Out × St)
 | 0, _, _, _ => none
 | k + 1, f, args, σ =>
  match C.prim f with
  | some g => match g args σ with
   | some (x, σ') => some (.ret x, σ')
   | none => none
  | none => match C.P.funcs[f]? with
   | some fn => match fn.body with
    | some c => if args.length ≤ fn.ntmps then
      match A3 C (call C k) fn.ntmps (k + 1) c ⟨E6 0 args, []⟩ σ with
      | some (.normal, φ, σ') | some (.ret, φ, σ') => match Bx C (call C k) (k + 1) φ.ds σ' none with
       | some (σ'', none) => match B0 C φ σ'' fn.results.toList with
        | some l => some (.ret (An l), σ'')
        | none => none
       | _ => none
      | some (.pan x, φ, σ') => match Bx C (call C k) (k + 1) φ.ds σ' (some x) with
       | some (σ'', none) => match B0 C φ σ'' fn.results.toList with
        | some l => some (.ret (An l), σ'')
        | none => none
       | some (σ'', some y) => some (.pan y, σ'')
       | none => none
      | _ => none
     else none
    | none => none
   | none => none

end Go.DM
namespace Go.DM
open Go Go.RowKit

structure K where
 base : Nat
 w : World
 blk : Nat → Option Nat
 frz : Nat → Option Nat
 own : Nat → Option Nat
 live : Nat → Bool

def ApRel (k : K) (c i m sz cap : Nat) : Ap → Prop
 | .no => True
 | .ex => cap = m / sz ∧ k.base ≤ c ∧ ∀ id, k.own id ≠ some c
 | .gr id => k.own id = some c ∧ (k.live id = true → cap = m / sz ∨ (k.frz c = some (i + m) ∧ ∃ cs e fr, k.w.heap[c]? = some (.cells cs e fr) ∧ cs.size = i + cap * sz))

def spRel (k : K) (c : Nat) : Ap → Prop
 | .gr id => k.own id = some c
 | _ => True

inductive Rel (k : K) : A → Value → Prop
 | v {x : Value} : Tx x = true → Rel k (.v x) x
 | ptr {b o c : Nat} : k.blk b = some c → Rel k (.ptr b o) (.pointer (some ⟨c, o, none⟩))
 | sp {cs : List A} {o c i n : Nat} {ap : Ap} (u : Nat → Value) : k.frz c = some n → i + cs.length ≤ n →
   (∀ (j : Nat) (a : A), cs[j]? = some a → k.w.cell? ⟨c, i + j, none⟩ = some (u j)) → (∀ (j : Nat) (a : A), cs[j]? = some a → Rel k a (u j)) → spRel k c ap →
   Rel k (.sp cs o ap) (.pointer (some ⟨c, i + o, none⟩))
 | sl {sz : Nat} {cs : List A} {ap : Ap} {c i n cap : Nat} (u : Nat → Value) : k.frz c = some n → i + cs.length ≤ n →
   (∀ (j : Nat) (a : A), cs[j]? = some a → k.w.cell? ⟨c, i + j, none⟩ = some (u j)) → (∀ (j : Nat) (a : A), cs[j]? = some a → Rel k a (u j)) →
   0 < sz → cs.length = cs.length / sz * sz → cs.length / sz ≤ cap → ApRel k c i cs.length sz cap ap →
   Rel k (.sl sz cs ap) (.slice (some ⟨c, i, none⟩) (cs.length / sz) cap)
 | sl0 {sz cap : Nat} {a : Addr} : 0 < sz → Rel k (.sl sz [] .no) (.slice (some a) 0 cap)
 | ms {b o len cap c : Nat} : k.blk b = some c → len ≤ cap → cap < Gl → Rel k (.ms b o len cap) (.slice (some ⟨c, o, none⟩) len cap)
 | mv {b o len cap sz c : Nat} {arr : Array Value} {e : TypeId} {fr : Nat × Nat} : k.blk b = some c → len ≤ cap → k.w.heap[c]? = some (.cells arr e fr) → o + cap * sz = arr.size → Rel k (.ms b o len (Gl + sz)) (.slice (some ⟨c, o, none⟩) len cap)
 | mp {b c : Nat} : k.blk b = some c → Rel k (.mp b) (.map (some c))
 | fn {f : Fn} {first cap : List A} {us vs : List Value} : first.length = us.length → cap.length = vs.length →
   (∀ (j : Nat) (a : A) (u : Value), first[j]? = some a → us[j]? = some u → Rel k a u) → (∀ (j : Nat) (a : A) (u : Value), cap[j]? = some a → vs[j]? = some u → Rel k a u) → Rel k (.fn f first cap) (.func f us.toArray vs.toArray)
 | ifc {t : TypeId} {x : A} {u : Value} : Rel k x u → Rel k (.ifc t x) (.iface t u)
 | agg {cs : List A} {us : List Value} : cs.length = us.length → (∀ (j : Nat) (a : A) (u : Value), cs[j]? = some a → us[j]? = some u → Rel k a u) → Rel k (.agg cs) (.agg us.toArray)
 | tup {cs : List A} {us : List Value} : cs.length = us.length → (∀ (j : Nat) (a : A) (u : Value), cs[j]? = some a → us[j]? = some u → Rel k a u) → Rel k (.tup cs) (.tuple us.toArray)
 | raw {id n c cap : Nat} : k.own id = some c → n ≤ cap → (k.live id = true → k.frz c = some 0 ∧ ∃ cs e fr, k.w.heap[c]? = some (.cells cs e fr) ∧ cs.size = cap) → (∃ m, k.frz c = some m) →
   Rel k (.raw id n) (.slice (some ⟨c, 0, none⟩) n cap)
 | junk {v : Value} : Rel k .junk v

theorem Rel.msInv {k : K} {b o len cap : Nat} {u : Value} (h : Rel k (.ms b o len cap) u) : ∃ c cap', u = .slice (some ⟨c, o, none⟩) len cap' ∧ k.blk b = some c ∧ len ≤ cap' ∧ ((cap < Gl ∧ cap' = cap) ∨ ∃ sz arr e fr, cap = Gl + sz ∧ k.w.heap[c]? = some (.cells arr e fr) ∧ o + cap' * sz = arr.size) := by
 cases h with
 | ms h1 h2 h3 => exact ⟨_, _, rfl, h1, h2, .inl ⟨h3, rfl⟩⟩
 | mv h1 h2 h3 h4 => exact ⟨_, _, rfl, h1, h2, .inr ⟨_, _, _, _, rfl, h3, h4⟩⟩
def RelL (k : K) (cs : List A) (us : List Value) : Prop := cs.length = us.length ∧ ∀ (j : Nat) (a : A) (u : Value), cs[j]? = some a → us[j]? = some u → Rel k a u

theorem RelL.nil (k : K) : RelL k [] [] := ⟨rfl, fun j a u h => by simp at h⟩
theorem RelL.cons {k : K} {a : A} {u : Value} {cs : List A} {us : List Value} (h : Rel k a u) (hr : RelL k cs us) : RelL k (a :: cs) (u :: us) :=
 ⟨by simp [hr.1], fun j x y hx hy => by
  cases j with
  | zero => simp at hx hy; subst hx; subst hy; exact h
  | succ j => simp at hx hy; exact hr.2 j x y hx hy⟩
theorem RelL.inv_cons {k : K} {a : A} {cs : List A} {us : List Value} (h : RelL k (a :: cs) us) : ∃ u us', us = u :: us' ∧ Rel k a u ∧ RelL k cs us' := by
 obtain ⟨hl, hr⟩ := h
 match us, hl with
 | u :: us', hl => exact ⟨u, us', rfl, hr 0 a u rfl rfl, by simpa using hl, fun j x y hx hy => hr (j + 1) x y (by simpa using hx) (by simpa using hy)⟩
theorem RelL.inv_nil {k : K} {us : List Value} (h : RelL k [] us) : us = [] := by
 have := h.1; simp at this; exact List.eq_nil_of_length_eq_zero this.symm
theorem RelL.append {k : K} {cs ds : List A} {us vs : List Value} (h : RelL k cs us) (h' : RelL k ds vs) : RelL k (cs ++ ds) (us ++ vs) := by
 induction cs generalizing us with
 | nil => rw [h.inv_nil]; exact h'
 | cons a cs ih =>
  obtain ⟨u, us', rfl, h1, h2⟩ := h.inv_cons
  exact RelL.cons h1 (ih h2)
theorem RelL.get {k : K} {cs : List A} {us : List Value} (h : RelL k cs us) {j : Nat} {a : A} (hj : cs[j]? = some a) : ∃ u, us[j]? = some u ∧ Rel k a u := by
 have hlt : j < cs.length := by
  rcases Nat.lt_or_ge j cs.length with h' | h'
  ·exact h'
  ·rw [List.getElem?_eq_none h'] at hj; cases hj
 have hlt' : j < us.length := by rw [← h.1]; exact hlt
 exact ⟨us[j], List.getElem?_eq_getElem hlt', h.2 j a _ hj (List.getElem?_eq_getElem hlt')⟩
theorem RelL.take {k : K} {cs : List A} {us : List Value} (h : RelL k cs us) (n : Nat) : RelL k (cs.take n) (us.take n) := by
 refine ⟨by simp [h.1], fun j a u ha hu => ?_⟩
 rw [List.getElem?_take] at ha hu
 split at ha
 ·rename_i hj; rw [if_pos hj] at hu; exact h.2 j a u ha hu
 ·cases ha
theorem RelL.drop {k : K} {cs : List A} {us : List Value} (h : RelL k cs us) (n : Nat) : RelL k (cs.drop n) (us.drop n) := by
 refine ⟨by simp [h.1], fun j a u ha hu => ?_⟩
 rw [List.getElem?_drop] at ha hu
 exact h.2 _ a u ha hu
structure K.le0 (k k' : K) : Prop where
 base : k'.base = k.base
 blk : ∀ b c, k.blk b = some c → k'.blk b = some c
 frz : ∀ c n, k.frz c = some n → ∃ n', n ≤ n' ∧ k'.frz c = some n'
 cell : ∀ c n i, k.frz c = some n → i < n → k'.w.cell? ⟨c, i, none⟩ = k.w.cell? ⟨c, i, none⟩
 own : ∀ id c, k.own id = some c → k'.own id = some c
 live : ∀ id c, k.own id = some c → k'.live id = true → k.live id = true ∧ k'.frz c = k.frz c
 noown : ∀ c n, k.frz c = some n → (∀ id, k.own id ≠ some c) → ∀ id, k'.own id ≠ some c
 shape : ∀ (c : Nat) (cs : Array Value) (e : TypeId) (fr : Nat × Nat), k.w.heap[c]? = some (.cells cs e fr) → ∃ cs' fr', k'.w.heap[c]? = some (.cells cs' e fr') ∧ cs'.size = cs.size

def K.unk (k : K) (c : Nat) (o : Obj) : Prop := k.w.heap[c]? = some o ∧ (∀ b, k.blk b ≠ some c) ∧ k.frz c = none
structure K.le (k k' : K) : Prop extends toLe0 : K.le0 k k' where
 unk : ∀ c o, k.unk c o → k'.unk c o
 same : ∀ c n, k.frz c = some n → (∀ id, k.own id ≠ some c) → k'.frz c = some n
instance {k k' : K} : Coe (K.le k k') (K.le0 k k') := ⟨fun h => h.toLe0⟩

theorem K.le0.refl (k : K) : k.le0 k :=
 ⟨rfl, fun _ _ h => h, fun _ n h => ⟨n, Nat.le_refl _, h⟩, fun _ _ _ _ _ => rfl, fun _ _ h => h, fun _ _ _ h => ⟨h, rfl⟩, fun _ _ _ h => h, fun _ cs _ fr h => ⟨cs, fr, h, rfl⟩⟩
theorem K.le0.trans {a b c : K} (h : a.le0 b) (g : b.le0 c) : a.le0 c := by
 refine ⟨g.base.trans h.base, fun x y e => g.blk _ _ (h.blk _ _ e), fun x n e => ?_, fun x n i e hi => ?_, fun x y e => g.own _ _ (h.own _ _ e), fun id x e l => ?_, fun x n e ho => ?_, fun x cs e fr hh => ?_⟩
 ·obtain ⟨n', h1, h2⟩ := h.frz _ _ e
  obtain ⟨n'', h3, h4⟩ := g.frz _ _ h2
  exact ⟨n'', Nat.le_trans h1 h3, h4⟩
 ·obtain ⟨n', h1, h2⟩ := h.frz _ _ e
  rw [g.cell _ _ i h2 (Nat.lt_of_lt_of_le hi h1), h.cell _ _ i e hi]
 ·obtain ⟨l1, f1⟩ := g.live _ _ (h.own _ _ e) l
  obtain ⟨l2, f2⟩ := h.live _ _ e l1
  exact ⟨l2, f1.trans f2⟩
 ·obtain ⟨n', _, h2⟩ := h.frz _ _ e
  exact g.noown _ _ h2 (h.noown _ _ e ho)
 ·obtain ⟨cs', fr', h3, h4⟩ := h.shape _ _ _ _ hh
  obtain ⟨cs'', fr'', h5, h6⟩ := g.shape _ _ _ _ h3
  exact ⟨cs'', fr'', h5, h6.trans h4⟩
theorem K.le.refl (k : K) : k.le k := ⟨K.le0.refl k, fun _ _ h => h, fun _ _ h _ => h⟩
theorem K.le.trans {a b c : K} (h : a.le b) (g : b.le c) : a.le c := ⟨h.toLe0.trans g.toLe0, fun x o hx => g.unk x o (h.unk x o hx), fun x n hf ho => g.same x n (h.same x n hf ho) (h.noown x n hf ho)⟩

theorem ApRel.mono0 {k k' : K} (h : k.le0 k') {c i m sz cap n : Nat} {ap : Ap} (hf : k.frz c = some n) (hr : ApRel k c i m sz cap ap) : ApRel k' c i m sz cap ap := by
 cases ap with
 | no => trivial
 | ex => exact ⟨hr.1, by rw [h.base]; exact hr.2.1, h.noown c n hf hr.2.2⟩
 | gr id =>
  refine ⟨h.own _ _ hr.1, fun hl => ?_⟩
  obtain ⟨l, f⟩ := h.live _ _ hr.1 hl
  refine (hr.2 l).imp (fun x => x) ?_
  rintro ⟨h1, cs, e, fr, hh, hs⟩
  obtain ⟨cs', fr', h3, h4⟩ := h.shape _ _ _ _ hh
  exact ⟨f.trans h1, cs', e, fr', h3, h4.trans hs⟩

theorem spRel.mono0 {k k' : K} (h : k.le0 k') {c : Nat} {ap : Ap} (hr : spRel k c ap) : spRel k' c ap := by
 cases ap with
 | gr id => exact h.own _ _ hr
 | no => trivial
 | ex => trivial

theorem Be {α : Type} {l : List α} {j : Nat} {a : α} (h : l[j]? = some a) : j < l.length := by
 rcases Nat.lt_or_ge j l.length with h' | h'
 ·exact h'
 ·rw [List.getElem?_eq_none h'] at h; cases h

theorem Rel.mono0 {k k' : K} (h : k.le0 k') {a : A} {v : Value} (hr : Rel k a v) : Rel k' a v := by
 induction hr with
 | v hs => exact .v hs
 | ptr hb => exact .ptr (h.blk _ _ hb)
 | sp u hf hl hc hr hs ih =>
  obtain ⟨n', h1, h2⟩ := h.frz _ _ hf
  exact .sp u h2 (by omega) (fun j a ha => by rw [h.cell _ _ _ hf (by have := Be ha; omega)]; exact hc j a ha) ih (hs.mono0 h)
 | sl u hf hl hc hr hz hm hcap hap ih =>
  obtain ⟨n', h1, h2⟩ := h.frz _ _ hf
  exact .sl u h2 (by omega) (fun j a ha => by rw [h.cell _ _ _ hf (by have := Be ha; omega)]; exact hc j a ha) ih hz hm hcap (hap.mono0 h hf)
 | sl0 hz => exact .sl0 hz
 | ms hb hl hx => exact .ms (h.blk _ _ hb) hl hx
 | mv hb hl hh hs =>
  obtain ⟨arr', fr', h1, h2⟩ := h.shape _ _ _ _ hh
  exact .mv (h.blk _ _ hb) hl h1 (hs.trans h2.symm)
 | mp hb => exact .mp (h.blk _ _ hb)
 | fn h1 h2 _ _ ih1 ih2 => exact .fn h1 h2 ih1 ih2
 | ifc _ ih => exact .ifc ih
 | agg h1 _ ih => exact .agg h1 ih
 | tup h1 _ ih => exact .tup h1 ih
 | raw ho hc hl hm =>
  obtain ⟨m, hm⟩ := hm
  obtain ⟨m', _, hm'⟩ := h.frz _ _ hm
  refine .raw (h.own _ _ ho) hc (fun hl' => ?_) ⟨m', hm'⟩
  obtain ⟨l, f⟩ := h.live _ _ ho hl'
  obtain ⟨h1, cs, e, fr, h2, h3⟩ := hl l
  obtain ⟨cs', fr', h4, h5⟩ := h.shape _ _ _ _ h2
  exact ⟨f.trans h1, cs', e, fr', h4, h5.trans h3⟩
 | junk => exact .junk
theorem Rel.mono {k k' : K} (h : k.le k') {a : A} {v : Value} (hr : Rel k a v) : Rel k' a v := Rel.mono0 h.toLe0 hr
theorem RelL.mono0 {k k' : K} (h : k.le0 k') {cs : List A} {us : List Value} (hr : RelL k cs us) : RelL k' cs us :=
 ⟨hr.1, fun j a u ha hu => (hr.2 j a u ha hu).mono0 h⟩

theorem RelL.mono {k k' : K} (h : k.le k') {cs : List A} {us : List Value} (hr : RelL k cs us) : RelL k' cs us := RelL.mono0 h.toLe0 hr
def EsRel (k : K) (es : List (Value × A × Nat)) (fs : List MapEntry) : Prop :=
 es.length = fs.length ∧ ∀ (j : Nat) (e : Value × A × Nat) (f : MapEntry), es[j]? = some e → fs[j]? = some f → f.key = e.1 ∧ f.born = e.2.2 ∧ Rel k e.2.1 f.val
theorem EsRel.mono0 {k k' : K} (h : k.le0 k') {es : List (Value × A × Nat)} {fs : List MapEntry} (hr : EsRel k es fs) : EsRel k' es fs :=
 ⟨hr.1, fun j e f he hf => let ⟨a, b, c⟩ := hr.2 j e f he hf; ⟨a, b, c.mono0 h⟩⟩

def BlkRel (k : K) : Blk → Obj → Prop
 | .cells cs e, o => ∃ (us ws : List Value) (e' : TypeId), o = .cells (us ++ ws).toArray e' (0, 0) ∧ (e < Hw → e' = e ∧ ws = []) ∧ RelL k cs us
 | .siter s pos, o => o = .stringIter s pos
 | .map es clock, o => ∃ fs : List MapEntry, o = .map fs.toArray clock ∧ EsRel k es fs
 | .miter m since seen clock, o => ∃ c, k.blk m = some c ∧ o = .mapIter (some c) since seen.toArray clock
theorem BlkRel.of {k : K} {cs : List A} {us : List Value} {e : TypeId} (h : RelL k cs us) : BlkRel k (.cells cs e) (.cells us.toArray e (0, 0)) := ⟨us, [], e, by rw [List.append_nil], fun _ => ⟨rfl, rfl⟩, h⟩
theorem BlkRel.mono0 {k k' : K} (h : k.le0 k') {b : Blk} {o : Obj} (hr : BlkRel k b o) : BlkRel k' b o := by
 cases b with
 | cells cs e => obtain ⟨us, ws, e', h1, h2, h3⟩ := hr; exact ⟨us, ws, e', h1, h2, h3.mono0 h⟩
 | siter s pos => exact hr
 | map es clock => obtain ⟨fs, h1, h2⟩ := hr; exact ⟨fs, h1, h2.mono0 h⟩
 | miter m since seen clock => obtain ⟨c, h1, h2⟩ := hr; exact ⟨c, h.blk _ _ h1, h2⟩

theorem BlkRel.mono {k k' : K} (h : k.le k') {b : Blk} {o : Obj} (hr : BlkRel k b o) : BlkRel k' b o := BlkRel.mono0 h.toLe0 hr
structure Inv (w0 : World) (σ : St) (k : K) : Prop where
 base : k.base = w0.heap.size
 below : Below w0.heap.size w0 k.w
 blk : ∀ b x, σ.blks.get b = some x → ∃ c o, k.blk b = some c ∧ w0.heap.size ≤ c ∧ k.frz c = none ∧ k.w.heap[c]? = some o ∧ BlkRel k x o
 next : ∀ b, σ.next ≤ b → k.blk b = none
 dom : ∀ b c, k.blk b = some c → c < k.w.heap.size
 inj : ∀ b b' c x x', σ.blks.get b = some x → σ.blks.get b' = some x' → k.blk b = some c → k.blk b' = some c → b = b'
 frz : ∀ c n, k.frz c = some n → ∃ cs e fr, k.w.heap[c]? = some (.cells cs e fr) ∧ n ≤ cs.size
 tok : ∀ id e, σ.toks.get id = some e → k.live id = true ∧ ∃ c n cs lo hi, k.own id = some c ∧ w0.heap.size ≤ c ∧ k.frz c = some n ∧ k.w.heap[c]? = some (.cells cs e (lo, hi)) ∧ (lo = hi ∨ hi ≤ n)
 tnext : ∀ id, σ.nextT ≤ id → k.own id = none
 odom : ∀ id c, k.own id = some c → ∃ n, k.frz c = some n
 tinj : ∀ id id' e e' c, σ.toks.get id = some e → σ.toks.get id' = some e' → k.own id = some c → k.own id' = some c → id = id'
 liv : ∀ id c, k.own id = some c → k.live id = true → ∃ e, σ.toks.get id = some e

end Go.DM
namespace Go.DM
open Go Go.RowKit

theorem Ad {w : World} {c : Nat} {o : Obj} (h : w.heap[c]? = some o) : c < w.heap.size := (Array.getElem?_eq_some_iff.1 h).1

theorem K0 (w : World) (o : Obj) (c : Nat) : (w.alloc o).heap[c]? = if c = w.heap.size then some o else w.heap[c]? := by
 show (w.heap.push o)[c]? = _
 rw [Array.getElem?_push]
theorem Af {w : World} {o : Obj} {c : Nat} (h : c < w.heap.size) : (w.alloc o).heap[c]? = w.heap[c]? := by
 rw [K0, if_neg (by omega)]
theorem Ag (w : World) (o : Obj) : (w.alloc o).heap[w.heap.size]? = some o := by
 rw [K0, if_pos rfl]
theorem Eq (w : World) (o : Obj) : ∀ (c : Nat) (cs : Array Value) (e : TypeId) (fr : Nat × Nat), w.heap[c]? = some (.cells cs e fr) → ∃ cs' fr', (w.alloc o).heap[c]? = some (.cells cs' e fr') ∧ cs'.size = cs.size :=
 fun _ cs _ fr h => ⟨cs, fr, (Af (Ad h)).trans h, rfl⟩
theorem cell_of_heap {w w' : World} {c i : Nat} (h : w'.heap[c]? = w.heap[c]?) : w'.cell? ⟨c, i, none⟩ = w.cell? ⟨c, i, none⟩ := World.cell?_of_block (a := ⟨c, i, none⟩) h
theorem Bl {w : World} {c i : Nat} {cs : Array Value} {e : TypeId} {fr : Nat × Nat} (h : w.heap[c]? = some (.cells cs e fr)) : w.cell? ⟨c, i, none⟩ = cs[i]? := by
 simp [World.cell?, h]
theorem Q7 {w : World} {c i : Nat} {cs : Array Value} {e : TypeId} {lo hi : Nat} (h : w.heap[c]? = some (.cells cs e (lo, hi))) : w.frozen? ⟨c, i, none⟩ = (decide (lo ≤ i) && decide (i < hi)) := by
 simp [World.frozen?, h]

section
variable {w0 : World} {σ : St} {k : K}

theorem Inv.frz_lt (h : Inv w0 σ k) {c n : Nat} (hf : k.frz c = some n) : c < k.w.heap.size := by
 obtain ⟨cs, e, fr, hh, _⟩ := h.frz c n hf
 exact Ad hh
theorem Inv.own_lt (h : Inv w0 σ k) {id c : Nat} (ho : k.own id = some c) : c < k.w.heap.size := by
 obtain ⟨n, hf⟩ := h.odom id c ho
 exact h.frz_lt hf
theorem Inv.frz_ne (h : Inv w0 σ k) {b c n : Nat} {x : Blk} (hx : σ.blks.get b = some x) (hb : k.blk b = some c) (hf : k.frz c = some n) : False := by
 obtain ⟨c', o, h1, _, h2, _⟩ := h.blk b x hx
 rw [hb] at h1; cases h1
 rw [hf] at h2; cases h2

def K.wd (k : K) (w : World) : K := { k with w := w }

theorem K.le_drew (k : K) : k.le (k.wd k.w.drew) :=
 ⟨⟨rfl, fun _ _ h => h, fun _ n h => ⟨n, Nat.le_refl _, h⟩, fun _ _ _ _ _ => rfl, fun _ _ h => h, fun _ _ _ h => ⟨h, rfl⟩, fun _ _ _ h => h, fun _ cs _ fr h => ⟨cs, fr, h, rfl⟩⟩, fun _ _ h => h, fun _ _ h _ => h⟩
theorem Inv.drew (h : Inv w0 σ k) : Inv w0 σ (k.wd k.w.drew) ∧ k.le (k.wd k.w.drew) :=
 ⟨⟨h.base, h.below.drew, fun b x hx => by
   obtain ⟨c, o, h1, h2, h3, h4, h5⟩ := h.blk b x hx
   exact ⟨c, o, h1, h2, h3, h4, h5.mono k.le_drew⟩,
   h.next, h.dom, h.inj, h.frz, h.tok, h.tnext, h.odom, h.tinj, h.liv⟩, k.le_drew⟩

theorem K.le_of (h : Inv w0 σ k) (k' : K) (h0 : k'.base = k.base) (hb : ∀ b c, k.blk b = some c → k'.blk b = some c) (hf : ∀ c n, k.frz c = some n → k'.frz c = some n)
  (ho : ∀ id c, k.own id = some c → k'.own id = some c) (hl : ∀ id c, k.own id = some c → k'.live id = true → k.live id = true)
  (hno : ∀ id c, k'.own id = some c → (∃ n, k.frz c = some n) → ∃ id', k.own id' = some c)
  (hw : ∀ c n, k.frz c = some n → k'.w.heap[c]? = k.w.heap[c]?) (hu : ∀ c o, k.unk c o → k'.unk c o) (hsh : ∀ (c : Nat) (cs : Array Value) (e : TypeId) (fr : Nat × Nat), k.w.heap[c]? = some (.cells cs e fr) → ∃ cs' fr', k'.w.heap[c]? = some (.cells cs' e fr') ∧ cs'.size = cs.size) : k.le k' := by
 refine ⟨?_, hu, fun c n e _ => hf c n e⟩
 refine ⟨h0, hb, fun c n e => ⟨n, Nat.le_refl _, hf c n e⟩, fun c n i e hi => cell_of_heap (hw c n e), ho, fun id c e l => ⟨hl id c e l, ?_⟩, fun c n e hn id hid => ?_, hsh⟩
 ·obtain ⟨n, hn⟩ := h.odom id c e
  rw [hf c n hn, hn]
 ·obtain ⟨id', h'⟩ := hno id c hid ⟨n, e⟩
  exact hn id' h'

def K.push (k : K) (b : Nat) (o : Obj) : K := { k with w := k.w.alloc o, blk := fun x => if x = b then some k.w.heap.size else k.blk x }
theorem Inv.push (h : Inv w0 σ k) {x : Blk} {o : Obj} (hx : BlkRel k x o) :
  Inv w0 (σ.push x) (k.push σ.next o) ∧ k.le (k.push σ.next o) ∧ (k.push σ.next o).blk σ.next = some k.w.heap.size := by
 have hle : k.le (k.push σ.next o) := by
  refine K.le_of h _ rfl (fun b c hb => ?_) (fun _ _ h => h) (fun _ _ h => h) (fun _ _ _ h => h) (fun id c h _ => ⟨id, h⟩) (fun c n hf => Af (h.frz_lt hf)) (fun c o' hu => ?_) (Eq _ _)
  rotate_left
  ·have hlt := Ad hu.1
   refine ⟨(Af hlt).trans hu.1, fun b hb => ?_, hu.2.2⟩
   simp only [K.push] at hb
   split at hb
   ·cases hb; exact Nat.lt_irrefl _ hlt
   ·exact hu.2.1 b hb
  have : b ≠ σ.next := by
   rintro rfl
   rw [h.next _ (Nat.le_refl _)] at hb; cases hb
  simp only [K.push, if_neg this]; exact hb
 have hfs : k.frz k.w.heap.size = none := by
  cases hf : k.frz k.w.heap.size with
  | none => rfl
  | some n => exact absurd (h.frz_lt hf) (Nat.lt_irrefl _)
 refine ⟨⟨h.base, h.below.alloc h.below.size _, fun b y hy => ?_, fun b hb => ?_, fun b c hb => ?_, fun b b' c y y' hy hy' hb hb' => ?_, fun c n hf => ?_, fun id e ht => ?_, h.tnext, h.odom, h.tinj, h.liv⟩, hle, ?_⟩
 ·simp only [St.push, Tr.get_set] at hy
  by_cases hbn : b = σ.next
  ·rw [if_pos hbn] at hy
   cases hy
   refine ⟨k.w.heap.size, o, by simp [K.push, hbn], h.below.size, hfs, Ag _ _, hx.mono hle⟩
  ·rw [if_neg hbn] at hy
   obtain ⟨c, o', h1, h2, h3, h4, h5⟩ := h.blk b y hy
   exact ⟨c, o', by simp [K.push, hbn, h1], h2, h3, (Af (h.dom b c h1)).trans h4, h5.mono hle⟩
 ·simp only [St.push] at hb
  simp only [K.push, if_neg (show b ≠ σ.next by omega)]
  exact h.next b (by omega)
 ·simp only [K.push] at hb ⊢
  rw [World.size_alloc]
  split at hb
  ·cases hb; omega
  ·have := h.dom b c hb; omega
 ·simp only [K.push] at hb hb'
  split at hb <;> split at hb'
  ·omega
  ·cases hb; exact absurd (h.dom b' _ hb') (Nat.lt_irrefl _)
  ·cases hb'; exact absurd (h.dom b _ hb) (Nat.lt_irrefl _)
  ·rename_i a1 a2
   simp only [St.push, Tr.get_set, if_neg a1] at hy
   simp only [St.push, Tr.get_set, if_neg a2] at hy'
   exact h.inj b b' c y y' hy hy' hb hb'
 ·obtain ⟨cs, e, fr, hh, hn⟩ := h.frz c n hf
  exact ⟨cs, e, fr, (Af (Ad hh)).trans hh, hn⟩
 ·obtain ⟨hl, c, n, cs, lo, hi, h1, h2, h3, h4, h5⟩ := h.tok id e ht
  exact ⟨hl, c, n, cs, lo, hi, h1, h2, h3, (Af (Ad h4)).trans h4, h5⟩
 ·simp [K.push]

def K.adopt (k : K) (b c : Nat) : K := { k with blk := fun x => if x = b then some c else k.blk x }
theorem Inv.adopt (h : Inv w0 σ k) {x : Blk} {o : Obj} {c : Nat} (hc : k.unk c o) (hB : w0.heap.size ≤ c) (hx : BlkRel k x o) :
  Inv w0 (σ.push x) (k.adopt σ.next c) ∧ K.le0 k (k.adopt σ.next c) ∧ (k.adopt σ.next c).blk σ.next = some c ∧ ∀ c' o', k.unk c' o' → c' ≠ c → (k.adopt σ.next c).unk c' o' := by
 have hle : K.le0 k (k.adopt σ.next c) := by
  refine ⟨rfl, fun b c' hb => ?_, fun _ n h => ⟨n, Nat.le_refl _, h⟩, fun _ _ _ _ _ => rfl, fun _ _ h => h, fun _ _ _ h => ⟨h, rfl⟩, fun _ _ _ h => h, fun _ cs _ fr h => ⟨cs, fr, h, rfl⟩⟩
  have : b ≠ σ.next := by
   rintro rfl
   rw [h.next _ (Nat.le_refl _)] at hb; cases hb
  simp only [K.adopt, if_neg this]; exact hb
 refine ⟨⟨h.base, h.below, fun b y hy => ?_, fun b hb => ?_, fun b c' hb => ?_, fun b b' c' y y' hy hy' hb hb' => ?_, h.frz, h.tok, h.tnext, h.odom, h.tinj, h.liv⟩, hle, by simp [K.adopt], fun c' o' hu hne => ⟨hu.1, fun b hb => ?_, hu.2.2⟩⟩
 ·simp only [St.push, Tr.get_set] at hy
  by_cases hbn : b = σ.next
  ·rw [if_pos hbn] at hy
   cases hy
   exact ⟨c, o, by simp [K.adopt, hbn], hB, hc.2.2, hc.1, hx.mono0 hle⟩
  ·rw [if_neg hbn] at hy
   obtain ⟨c', o', h1, h2, h3, h4, h5⟩ := h.blk b y hy
   exact ⟨c', o', by simp [K.adopt, hbn, h1], h2, h3, h4, h5.mono0 hle⟩
 ·simp only [St.push] at hb
  simp only [K.adopt, if_neg (show b ≠ σ.next by omega)]
  exact h.next b (by omega)
 ·simp only [K.adopt] at hb
  split at hb
  ·cases hb; exact Ad hc.1
  ·exact h.dom b c' hb
 ·simp only [K.adopt] at hb hb'
  split at hb <;> split at hb'
  ·omega
  ·cases hb; exact absurd hb' (hc.2.1 b')
  ·cases hb'; exact absurd hb (hc.2.1 b)
  ·rename_i a1 a2
   simp only [St.push, Tr.get_set, if_neg a1] at hy
   simp only [St.push, Tr.get_set, if_neg a2] at hy'
   exact h.inj b b' c' y y' hy hy' hb hb'
 ·simp only [K.adopt] at hb
  split at hb
  ·cases hb; exact hne rfl
  ·exact hu.2.1 b hb

def K.adoptTok (k : K) (c id : Nat) : K :=
 { base := k.base, w := k.w, blk := k.blk, frz := fun x => if x = c then some 0 else k.frz x, own := fun x => if x = id then some c else k.own x, live := fun x => if x = id then true else k.live x }
theorem Inv.adoptTok (h : Inv w0 σ k) {c : Nat} {us : Array Value} {e : TypeId} (hc : k.unk c (.cells us e (0, 0))) (hB : w0.heap.size ≤ c) :
  Inv w0 (σ.tok e) (k.adoptTok c σ.nextT) ∧ K.le0 k (k.adoptTok c σ.nextT) ∧ (∀ c' o', k.unk c' o' → c' ≠ c → (k.adoptTok c σ.nextT).unk c' o') ∧ ∀ c' m, k.frz c' = some m → (k.adoptTok c σ.nextT).frz c' = some m := by
 have hne : ∀ c' m, k.frz c' = some m → c' ≠ c := fun c' m hf e => by rw [e, hc.2.2] at hf; cases hf
 have hid : ∀ id c', k.own id = some c' → id ≠ σ.nextT := by
  rintro id c' ho rfl
  rw [h.tnext _ (Nat.le_refl _)] at ho; cases ho
 have hno : ∀ id, k.own id ≠ some c := fun id ho => by
  obtain ⟨m, hm⟩ := h.odom id c ho
  exact hne c m hm rfl
 have hfz : ∀ c' m, k.frz c' = some m → (k.adoptTok c σ.nextT).frz c' = some m := fun c' m hf => by simp only [K.adoptTok, if_neg (hne c' m hf)]; exact hf
 have hle : K.le0 k (k.adoptTok c σ.nextT) := by
  refine ⟨rfl, fun _ _ h => h, fun c' m hf => ⟨m, Nat.le_refl _, hfz c' m hf⟩, fun _ _ _ _ _ => rfl, fun id c' ho => by simp only [K.adoptTok, if_neg (hid id c' ho)]; exact ho, fun id c' ho hl => ?_, fun c' m hf hn id ho => ?_, fun _ cs _ fr h => ⟨cs, fr, h, rfl⟩⟩
  ·simp only [K.adoptTok, if_neg (hid id c' ho)] at hl
   obtain ⟨m, hm⟩ := h.odom id c' ho
   exact ⟨hl, by rw [hfz c' m hm, hm]⟩
  ·simp only [K.adoptTok] at ho
   split at ho
   ·cases ho; exact hne _ m hf rfl
   ·exact hn id ho
 refine ⟨⟨h.base, h.below, fun b y hy => ?_, h.next, h.dom, h.inj, fun c' m hf => ?_, fun id e' ht => ?_, fun id hid' => ?_, fun id c' ho => ?_, fun id id' e1 e2 c' h1 h2 o1 o2 => ?_, fun id c' ho hl => ?_⟩, hle, fun c' o' hu hcc => ⟨hu.1, hu.2.1, by simp only [K.adoptTok, if_neg hcc]; exact hu.2.2⟩, hfz⟩
 ·obtain ⟨c', o', h1, h2, h3, h4, h5⟩ := h.blk b y hy
  exact ⟨c', o', h1, h2, by simp only [K.adoptTok, if_neg (show ¬ c' = c from fun e' => hc.2.1 b (by rw [← e']; exact h1))]; exact h3, h4, h5.mono0 hle⟩
 ·simp only [K.adoptTok] at hf
  split at hf
  ·rename_i hcc
   cases hf
   exact ⟨us, e, (0, 0), by rw [hcc]; exact hc.1, Nat.zero_le _⟩
  ·exact h.frz c' m hf
 ·simp only [St.tok, Tr.get_set] at ht
  split at ht
  ·rename_i hi
   cases ht
   exact ⟨by simp [K.adoptTok, hi], c, 0, us, 0, 0, by simp [K.adoptTok, hi], hB, by simp [K.adoptTok], hc.1, .inl rfl⟩
  ·rename_i hi
   obtain ⟨hl, c', m, cs, lo', hi', h1, h2, h3, h4, h5⟩ := h.tok id e' ht
   exact ⟨by simp only [K.adoptTok, if_neg hi]; exact hl, c', m, cs, lo', hi', by simp only [K.adoptTok, if_neg hi]; exact h1, h2, hfz c' m h3, h4, h5⟩
 ·simp only [St.tok] at hid'
  simp only [K.adoptTok, if_neg (show id ≠ σ.nextT by omega)]
  exact h.tnext id (by omega)
 ·simp only [K.adoptTok] at ho
  split at ho
  ·cases ho; exact ⟨0, by simp [K.adoptTok]⟩
  ·obtain ⟨m, hm⟩ := h.odom id c' ho
   exact ⟨m, hfz c' m hm⟩
 ·simp only [St.tok, Tr.get_set] at h1 h2
  simp only [K.adoptTok] at o1 o2
  split at o1 <;> split at o2
  ·omega
  ·cases o1; exact absurd o2 (hno _)
  ·cases o2; exact absurd o1 (hno _)
  ·rename_i a b
   rw [if_neg a] at h1
   rw [if_neg b] at h2
   exact h.tinj id id' e1 e2 c' h1 h2 o1 o2
 ·simp only [St.tok, Tr.get_set]
  by_cases hi : id = σ.nextT
  ·exact ⟨e, if_pos hi⟩
  ·simp only [K.adoptTok, if_neg hi] at ho hl
   obtain ⟨e', he⟩ := h.liv id c' ho hl
   exact ⟨e', by rw [if_neg hi]; exact he⟩

def K.hide (k : K) (o : Obj) : K := { k with w := k.w.alloc o }
theorem Inv.hide (h : Inv w0 σ k) (o : Obj) : Inv w0 σ (k.hide o) ∧ k.le (k.hide o) ∧ (k.hide o).unk k.w.heap.size o := by
 have hle : k.le (k.hide o) :=
  K.le_of h _ rfl (fun _ _ h => h) (fun _ _ h => h) (fun _ _ h => h) (fun _ _ _ h => h) (fun id c h _ => ⟨id, h⟩) (fun c n hf => Af (h.frz_lt hf)) (fun c o' hu => ⟨(Af (Ad hu.1)).trans hu.1, hu.2.1, hu.2.2⟩) (Eq _ _)
 have hfs : k.frz k.w.heap.size = none := by
  cases hf : k.frz k.w.heap.size with
  | none => rfl
  | some n => exact absurd (h.frz_lt hf) (Nat.lt_irrefl _)
 refine ⟨⟨h.base, h.below.alloc h.below.size _, fun b y hy => ?_, h.next, fun b c hb => ?_, h.inj, fun c n hf => ?_, fun id e ht => ?_, h.tnext, h.odom, h.tinj, h.liv⟩, hle, Ag _ _, fun b hb => ?_, hfs⟩
 ·obtain ⟨c, o', h1, h2, h3, h4, h5⟩ := h.blk b y hy
  exact ⟨c, o', h1, h2, h3, (Af (h.dom b c h1)).trans h4, h5.mono hle⟩
 ·have := h.dom b c hb
  simp only [K.hide, World.size_alloc]; omega
 ·obtain ⟨cs, e, fr, hh, hn⟩ := h.frz c n hf
  exact ⟨cs, e, fr, (Af (Ad hh)).trans hh, hn⟩
 ·obtain ⟨hl, c, n, cs, lo, hi, h1, h2, h3, h4, h5⟩ := h.tok id e ht
  exact ⟨hl, c, n, cs, lo, hi, h1, h2, h3, (Af (Ad h4)).trans h4, h5⟩
 ·exact absurd (h.dom b _ hb) (Nat.lt_irrefl _)

def K.lay (k : K) (o : Obj) (n : Nat) : K := { k with w := k.w.alloc o, frz := fun x => if x = k.w.heap.size then some n else k.frz x }
theorem Inv.lay (h : Inv w0 σ k) {us : Array Value} {e : TypeId} {fr : Nat × Nat} {n : Nat} (hn : n ≤ us.size) :
  Inv w0 σ (k.lay (.cells us e fr) n) ∧ k.le (k.lay (.cells us e fr) n) ∧ (k.lay (.cells us e fr) n).frz k.w.heap.size = some n ∧ ∀ id, (k.lay (.cells us e fr) n).own id ≠ some k.w.heap.size := by
 have hlt : ∀ c m, k.frz c = some m → c ≠ k.w.heap.size := fun c m hf e => by have := h.frz_lt hf; omega
 have hle : k.le (k.lay (.cells us e fr) n) :=
  K.le_of h _ rfl (fun _ _ h => h) (fun c m hf => by simp only [K.lay, if_neg (hlt c m hf)]; exact hf) (fun _ _ h => h) (fun _ _ _ h => h) (fun id c h _ => ⟨id, h⟩) (fun c n hf => Af (h.frz_lt hf))
   (fun c o hu => by
    have hc := Ad hu.1
    exact ⟨(Af hc).trans hu.1, hu.2.1, by simp only [K.lay, if_neg (Nat.ne_of_lt hc)]; exact hu.2.2⟩) (Eq _ _)
 refine ⟨⟨h.base, h.below.alloc h.below.size _, fun b y hy => ?_, h.next, fun b c hb => ?_, h.inj, fun c m hf => ?_, fun id e' ht => ?_, h.tnext, fun id c ho => ?_, h.tinj, h.liv⟩, hle, by simp [K.lay], fun id ho => ?_⟩
 ·obtain ⟨c, o', h1, h2, h3, h4, h5⟩ := h.blk b y hy
  have hne : c ≠ k.w.heap.size := by have := Ad h4; omega
  exact ⟨c, o', h1, h2, by simp only [K.lay, if_neg hne]; exact h3, (Af (Ad h4)).trans h4, h5.mono hle⟩
 ·have := h.dom b c hb
  simp only [K.lay, World.size_alloc]; omega
 ·simp only [K.lay] at hf
  split at hf
  ·rename_i hc
   cases hf
   exact ⟨us, e, fr, by rw [hc]; exact Ag _ _, hn⟩
  ·obtain ⟨cs, e', fr', hh, hn'⟩ := h.frz c m hf
   exact ⟨cs, e', fr', (Af (Ad hh)).trans hh, hn'⟩
 ·obtain ⟨hl, c, m, cs, lo, hi, h1, h2, h3, h4, h5⟩ := h.tok id e' ht
  exact ⟨hl, c, m, cs, lo, hi, h1, h2, by simp only [K.lay, if_neg (hlt c m h3)]; exact h3, (Af (Ad h4)).trans h4, h5⟩
 ·obtain ⟨m, hm⟩ := h.odom id c ho
  exact ⟨m, by simp only [K.lay, if_neg (hlt c m hm)]; exact hm⟩
 ·obtain ⟨m, hm⟩ := h.odom id _ ho
  exact hlt _ m hm rfl

def K.layTok (k : K) (o : Obj) (n id : Nat) : K :=
 { base := k.base, w := k.w.alloc o, blk := k.blk, frz := fun x => if x = k.w.heap.size then some n else k.frz x, own := fun x => if x = id then some k.w.heap.size else k.own x, live := fun x => if x = id then true else k.live x }
theorem Inv.layTok (h : Inv w0 σ k) {us : Array Value} {e : TypeId} {lo hi n : Nat} (hn : n ≤ us.size) (hr : lo = hi ∨ hi ≤ n) :
  Inv w0 (σ.tok e) (k.layTok (.cells us e (lo, hi)) n σ.nextT) ∧ k.le (k.layTok (.cells us e (lo, hi)) n σ.nextT) := by
 have hlt : ∀ c m, k.frz c = some m → c ≠ k.w.heap.size := fun c m hf e => by have := h.frz_lt hf; omega
 have hid : ∀ id c, k.own id = some c → id ≠ σ.nextT := by
  rintro id c ho rfl
  rw [h.tnext _ (Nat.le_refl _)] at ho; cases ho
 have hle : k.le (k.layTok (.cells us e (lo, hi)) n σ.nextT) := by
  refine K.le_of h _ rfl (fun _ _ h => h) (fun c m hf => by simp only [K.layTok, if_neg (hlt c m hf)]; exact hf) (fun id c ho => by simp only [K.layTok, if_neg (hid id c ho)]; exact ho)
   (fun id c ho hl => by simp only [K.layTok, if_neg (hid id c ho)] at hl; exact hl) (fun id c ho hx => ?_) (fun c n hf => Af (h.frz_lt hf))
   (fun c o hu => by
    have hc := Ad hu.1
    exact ⟨(Af hc).trans hu.1, hu.2.1, by simp only [K.layTok, if_neg (Nat.ne_of_lt hc)]; exact hu.2.2⟩) (Eq _ _)
  simp only [K.layTok] at ho
  split at ho
  ·cases ho
   obtain ⟨m, hm⟩ := hx
   exact absurd rfl (hlt _ m hm)
  ·exact ⟨id, ho⟩
 refine ⟨⟨h.base, h.below.alloc h.below.size _, fun b y hy => ?_, h.next, fun b c hb => ?_, h.inj, fun c m hf => ?_, fun id e' ht => ?_, fun id hid' => ?_, fun id c ho => ?_, fun id id' e1 e2 c h1 h2 o1 o2 => ?_, fun id c ho hl => ?_⟩, hle⟩
 ·obtain ⟨c, o', h1, h2, h3, h4, h5⟩ := h.blk b y hy
  have hne : c ≠ k.w.heap.size := by have := Ad h4; omega
  exact ⟨c, o', h1, h2, by simp only [K.layTok, if_neg hne]; exact h3, (Af (Ad h4)).trans h4, h5.mono hle⟩
 ·have := h.dom b c hb
  simp only [K.layTok, World.size_alloc]; omega
 ·simp only [K.layTok] at hf
  split at hf
  ·rename_i hc
   cases hf
   exact ⟨us, e, (lo, hi), by rw [hc]; exact Ag _ _, hn⟩
  ·obtain ⟨cs, e', fr', hh, hn'⟩ := h.frz c m hf
   exact ⟨cs, e', fr', (Af (Ad hh)).trans hh, hn'⟩
 ·simp only [St.tok, Tr.get_set] at ht
  split at ht
  ·rename_i hi
   cases ht
   exact ⟨by simp [K.layTok, hi], k.w.heap.size, n, us, lo, _, by simp [K.layTok, hi], h.below.size, by simp [K.layTok], Ag _ _, hr⟩
  ·rename_i hi
   obtain ⟨hl, c, m, cs, lo', hi', h1, h2, h3, h4, h5⟩ := h.tok id e' ht
   exact ⟨by simp only [K.layTok, if_neg hi]; exact hl, c, m, cs, lo', hi', by simp only [K.layTok, if_neg hi]; exact h1, h2, by simp only [K.layTok, if_neg (hlt c m h3)]; exact h3, (Af (Ad h4)).trans h4, h5⟩
 ·simp only [St.tok] at hid'
  simp only [K.layTok, if_neg (show id ≠ σ.nextT by omega)]
  exact h.tnext id (by omega)
 ·simp only [K.layTok] at ho ⊢
  split at ho
  ·cases ho; exact ⟨n, if_pos rfl⟩
  ·obtain ⟨m, hm⟩ := h.odom id c ho
   exact ⟨m, by rw [if_neg (hlt c m hm)]; exact hm⟩
 ·simp only [St.tok, Tr.get_set] at h1 h2
  simp only [K.layTok] at o1 o2
  split at o1 <;> split at o2
  ·omega
  ·cases o1; exact absurd (h.own_lt o2) (Nat.lt_irrefl _)
  ·cases o2; exact absurd (h.own_lt o1) (Nat.lt_irrefl _)
  ·rename_i a b
   rw [if_neg a] at h1
   rw [if_neg b] at h2
   exact h.tinj id id' e1 e2 c h1 h2 o1 o2
 ·simp only [St.tok, Tr.get_set]
  by_cases hi : id = σ.nextT
  ·exact ⟨e, if_pos hi⟩
  ·simp only [K.layTok, if_neg hi] at ho hl
   obtain ⟨e', he⟩ := h.liv id c ho hl
   exact ⟨e', by rw [if_neg hi]; exact he⟩

def K.drop (k : K) (id : Nat) : K := { k with live := fun x => if x = id then false else k.live x }
theorem Inv.drop (h : Inv w0 σ k) (id : Nat) : Inv w0 (σ.untok id) (k.drop id) ∧ k.le (k.drop id) := by
 have hle : k.le (k.drop id) := by
  refine K.le_of h _ rfl (fun _ _ h => h) (fun _ _ h => h) (fun _ _ h => h) (fun x c ho hl => ?_) (fun x c h _ => ⟨x, h⟩) (fun _ _ _ => rfl) (fun _ _ h => h) (fun _ cs _ fr h => ⟨cs, fr, h, rfl⟩)
  simp only [K.drop] at hl
  split at hl
  ·cases hl
  ·exact hl
 refine ⟨⟨h.base, h.below, fun b y hy => ?_, h.next, h.dom, h.inj, h.frz, fun x e' ht => ?_, h.tnext, h.odom, fun x y e1 e2 c h1 h2 o1 o2 => ?_, fun x c ho hl => ?_⟩, hle⟩
 ·obtain ⟨c, o', h1, h2, h3, h4, h5⟩ := h.blk b y hy
  exact ⟨c, o', h1, h2, h3, h4, h5.mono hle⟩
 ·simp only [St.untok, Tr.get_del] at ht
  split at ht
  ·cases ht
  ·rename_i hx
   obtain ⟨hl, r⟩ := h.tok x e' ht
   exact ⟨by simp only [K.drop, if_neg hx]; exact hl, r⟩
 ·simp only [St.untok, Tr.get_del] at h1 h2
  split at h1
  ·cases h1
  ·split at h2
   ·cases h2
   ·exact h.tinj x y e1 e2 c h1 h2 o1 o2
 ·simp only [K.drop] at hl
  split at hl
  ·cases hl
  ·rename_i hx
   obtain ⟨e, he⟩ := h.liv x c ho hl
   exact ⟨e, by simp only [St.untok, Tr.get_del, if_neg hx]; exact he⟩

theorem Inv.inj_put (h : Inv w0 σ k) {b : Nat} {x : Blk} (hx : ∃ y, σ.blks.get b = some y) : ∀ b1 b2 c y1 y2, (σ.put b x).blks.get b1 = some y1 → (σ.put b x).blks.get b2 = some y2 → k.blk b1 = some c → k.blk b2 = some c → b1 = b2 := by
 have up : ∀ b1 y1, (σ.put b x).blks.get b1 = some y1 → ∃ y, σ.blks.get b1 = some y := by
  intro b1 y1 h1
  simp only [St.put, Tr.get_set] at h1
  split at h1
  ·rename_i hb; rw [hb]; exact hx
  ·exact ⟨_, h1⟩
 intro b1 b2 c y1 y2 h1 h2 h3 h4
 obtain ⟨z1, g1⟩ := up b1 y1 h1
 obtain ⟨z2, g2⟩ := up b2 y2 h2
 exact h.inj b1 b2 c z1 z2 g1 g2 h3 h4
theorem Inv.inj_kill (h : Inv w0 σ k) {b : Nat} : ∀ b1 b2 c y1 y2, (σ.kill b).blks.get b1 = some y1 → (σ.kill b).blks.get b2 = some y2 → k.blk b1 = some c → k.blk b2 = some c → b1 = b2 := by
 have up : ∀ b1 y1, (σ.kill b).blks.get b1 = some y1 → σ.blks.get b1 = some y1 := by
  intro b1 y1 h1
  simp only [St.kill, Tr.get_del] at h1
  split at h1
  ·cases h1
  ·exact h1
 exact fun b1 b2 c y1 y2 h1 h2 => h.inj b1 b2 c y1 y2 (up _ _ h1) (up _ _ h2)

theorem Inv.setRow (h : Inv w0 σ k) {b c : Nat} {cs cs' : List A} {e e' : TypeId} {us us' : List Value} (hx : σ.blks.get b = some (.cells cs e)) (hb : k.blk b = some c) (h4 : k.w.heap[c]? = some (.cells us.toArray e' (0, 0))) (hr : BlkRel k (.cells cs' e) (.cells us'.toArray e' (0, 0))) (hsz : us'.length = us.length) :
  Inv w0 (σ.put b (.cells cs' e)) (k.wd (k.w.setRow c us'.toArray)) ∧ k.le (k.wd (k.w.setRow c us'.toArray)) := by
 obtain ⟨c', o, h1, h2, h3, _⟩ := h.blk b _ hx
 rw [hb] at h1; cases h1
 have hne : ∀ x n, k.frz x = some n → x ≠ c := by rintro x n hf rfl; rw [h3] at hf; cases hf
 have hle : k.le (k.wd (k.w.setRow c us'.toArray)) :=
  K.le_of h _ rfl (fun _ _ h => h) (fun _ _ h => h) (fun _ _ h => h) (fun _ _ _ h => h) (fun x c h _ => ⟨x, h⟩) (fun x n hf => setRow_other _ _ _ _ (hne x n hf))
   (fun x o hu => ⟨(setRow_other _ _ _ _ (by rintro rfl; exact hu.2.1 b hb)).trans hu.1, hu.2.1, hu.2.2⟩)
   (fun x cs1 e1 fr1 hh1 => by
    by_cases hxc : x = c
    ·subst hxc
     rw [h4] at hh1; cases hh1
     exact ⟨us'.toArray, _, setRow_heap _ _ _ _ _ _ h4, by simpa using hsz⟩
    ·exact ⟨cs1, fr1, (setRow_other _ _ _ _ hxc).trans hh1, rfl⟩)
 have hsame : (k.w.setRow c us'.toArray).heap[c]? = some (.cells us'.toArray e' (0, 0)) := setRow_heap _ _ _ _ _ _ h4
 refine ⟨⟨h.base, ?_, fun b' y hy => ?_, h.next, fun b' c' hb' => ?_, h.inj_put ⟨_, hx⟩, fun x n hf => ?_, fun id e1 ht => ?_, h.tnext, h.odom, h.tinj, h.liv⟩, hle⟩
 ·exact h.below.trans ⟨rfl, rfl, rfl, by simp [K.wd], fun x hx => setRow_other _ _ _ _ (by omega)⟩
 ·simp only [St.put, Tr.get_set] at hy
  split at hy
  ·rename_i hbb
   cases hy
   exact ⟨c, _, by rw [hbb]; exact hb, h2, h3, hsame, hr.mono hle⟩
  ·rename_i hbb
   obtain ⟨c', o', g1, g2, g3, g4, g5⟩ := h.blk b' y hy
   have : c' ≠ c := by rintro rfl; exact hbb (h.inj b' b _ _ _ hy hx g1 hb)
   exact ⟨c', o', g1, g2, g3, (setRow_other _ _ _ _ this).trans g4, g5.mono hle⟩
 ·have := h.dom b' c' hb'
  simp only [K.wd, setRow_size]; exact this
 ·obtain ⟨cs1, e1, fr, hh, hn⟩ := h.frz x n hf
  exact ⟨cs1, e1, fr, (setRow_other _ _ _ _ (hne x n hf)).trans hh, hn⟩
 ·obtain ⟨hl, x, n, cs1, lo, hi, g1, g2, g3, g4, g5⟩ := h.tok id e1 ht
  exact ⟨hl, x, n, cs1, lo, hi, g1, g2, g3, (setRow_other _ _ _ _ (hne x n g3)).trans g4, g5⟩

theorem Inv.kill (h : Inv w0 σ k) (b : Nat) : Inv w0 (σ.kill b) k := by
 refine ⟨h.base, h.below, fun y x hy => ?_, h.next, h.dom, h.inj_kill, h.frz, h.tok, h.tnext, h.odom, h.tinj, h.liv⟩
 simp only [St.kill, Tr.get_del] at hy
 split at hy
 ·cases hy
 ·exact h.blk y x hy
theorem Inv.rename (h : Inv w0 σ k) {b c : Nat} {X : Blk} (hx : σ.blks.get b = some X) (hb : k.blk b = some c) {σ' : St} (hg : ∀ y, σ'.blks.get y = if y = σ.next then some X else if y = b then none else σ.blks.get y)
  (hn : σ'.next = σ.next + 1) (ht : σ'.toks = σ.toks) (hnt : σ'.nextT = σ.nextT) : Inv w0 σ' (k.adopt σ.next c) ∧ k.le (k.adopt σ.next c) ∧ (k.adopt σ.next c).blk σ.next = some c := by
 have hbn : ∀ x y, k.blk x = some y → x ≠ σ.next := by
  rintro x y hy rfl
  rw [h.next _ (Nat.le_refl _)] at hy; cases hy
 have hle : k.le (k.adopt σ.next c) := by
  refine ⟨⟨rfl, fun x y hy => ?_, fun _ n h => ⟨n, Nat.le_refl _, h⟩, fun _ _ _ _ _ => rfl, fun _ _ h => h, fun _ _ _ h => ⟨h, rfl⟩, fun _ _ _ h => h, fun _ cs _ fr h => ⟨cs, fr, h, rfl⟩⟩, fun x o hu => ⟨hu.1, fun y hy => ?_, hu.2.2⟩, fun _ _ h _ => h⟩
  ·simp only [K.adopt, if_neg (hbn x y hy)]; exact hy
  ·simp only [K.adopt] at hy
   split at hy
   ·cases hy; exact hu.2.1 b hb
   ·exact hu.2.1 y hy
 refine ⟨⟨h.base, h.below, fun y z hy => ?_, fun y hy => ?_, fun y z hy => ?_, fun y y' z u u' hy hy' h1 h2 => ?_, h.frz, fun id e hd => h.tok id e (by rw [← ht]; exact hd), fun id hi => h.tnext id (by rw [← hnt]; exact hi), h.odom,
  fun id id' e e' z h1 h2 => h.tinj id id' e e' z (by rw [← ht]; exact h1) (by rw [← ht]; exact h2), fun id z ho hl => by rw [ht]; exact h.liv id z ho hl⟩, hle, by simp [K.adopt]⟩
 ·rw [hg] at hy
  split at hy
  ·rename_i hyn
   cases hy
   obtain ⟨c', o, h1, h2, h3, h4, h5⟩ := h.blk b _ hx
   rw [hb] at h1; cases h1
   exact ⟨c, o, by simp [K.adopt, hyn], h2, h3, h4, h5.mono hle⟩
  ·rename_i hyn
   split at hy
   ·cases hy
   ·obtain ⟨c', o, h1, h2, h3, h4, h5⟩ := h.blk y z hy
    exact ⟨c', o, by simp only [K.adopt, if_neg hyn]; exact h1, h2, h3, h4, h5.mono hle⟩
 ·rw [hn] at hy
  simp only [K.adopt, if_neg (show y ≠ σ.next by omega)]
  exact h.next y (by omega)
 ·simp only [K.adopt] at hy
  split at hy
  ·cases hy; exact h.dom b c hb
  ·exact h.dom y z hy
 ·rw [hg] at hy hy'
  simp only [K.adopt] at h1 h2
  split at h1 <;> split at h2
  ·omega
  ·rename_i a1 a2
   cases h1
   rw [if_neg a2] at hy'
   split at hy'
   ·cases hy'
   ·rename_i a3
    exact absurd (h.inj _ _ _ _ _ hy' hx h2 hb) a3
  ·rename_i a1 a2
   cases h2
   rw [if_neg a1] at hy
   split at hy
   ·cases hy
   ·rename_i a3
    exact absurd (h.inj _ _ _ _ _ hy hx h1 hb) a3
  ·rename_i a1 a2
   rw [if_neg a1] at hy
   rw [if_neg a2] at hy'
   split at hy
   ·cases hy
   ·split at hy'
    ·cases hy'
    ·exact h.inj _ _ _ _ _ hy hy' h1 h2
theorem Inv.regrow (h : Inv w0 σ k) {b c : Nat} {cs cs' : List A} {e e' : TypeId} {us us' : List Value} (hx : σ.blks.get b = some (.cells cs e)) (hb : k.blk b = some c) (h4 : k.w.heap[c]? = some (.cells us.toArray e' (0, 0)))
  (hr : BlkRel k (.cells cs' e) (.cells us'.toArray e' (0, 0))) (hsz : us'.length = us.length) :
  Inv w0 ((σ.kill b).push (.cells cs' e)) ((k.wd (k.w.setRow c us'.toArray)).adopt σ.next c) ∧ k.le ((k.wd (k.w.setRow c us'.toArray)).adopt σ.next c) ∧ ((k.wd (k.w.setRow c us'.toArray)).adopt σ.next c).blk σ.next = some c := by
 obtain ⟨g1, g2⟩ := h.setRow hx hb h4 hr hsz
 obtain ⟨q1, q2, q3⟩ := g1.rename (b := b) (c := c) (X := .cells cs' e) (σ' := (σ.kill b).push (.cells cs' e)) (by simp [St.put, Tr.get_set]) hb (fun y => by
  simp only [St.push, St.kill, St.put, Tr.get_set, Tr.get_del]
  by_cases h1 : y = σ.next
  ·simp [h1]
  ·simp only [if_neg h1]
   by_cases h2 : y = b
   ·simp [h2]
   ·simp [h2]) rfl rfl rfl
 exact ⟨q1, g2.trans q2, q3⟩

def _root_.Go.World.setO (w : World) (r : Nat) (o : Obj) : World := { w with heap := w.heap.setIfInBounds r o }
theorem T0 {w : World} {r : Nat} {o o' : Obj} (h : w.heap[r]? = some o') : (w.setO r o).heap[r]? = some o := by
 have := Ad h
 simp [World.setO, this]
theorem Cx {w : World} {r c : Nat} {o : Obj} (h : c ≠ r) : (w.setO r o).heap[c]? = w.heap[c]? := by
 simp only [World.setO]
 rw [Array.getElem?_setIfInBounds, if_neg (fun e => h e.symm)]
theorem Inv.setObj (h : Inv w0 σ k) {b c : Nat} {x x' : Blk} {o' : Obj} (hx : σ.blks.get b = some x) (hb : k.blk b = some c) (hr : BlkRel k x' o') (hnc : ∀ cs e, x ≠ .cells cs e) :
  Inv w0 (σ.put b x') (k.wd (k.w.setO c o')) ∧ k.le (k.wd (k.w.setO c o')) := by
 obtain ⟨c', o, h1, h2, h3, h4, h6⟩ := h.blk b _ hx
 rw [hb] at h1; cases h1
 have hne : ∀ x n, k.frz x = some n → x ≠ c := by rintro x n hf rfl; rw [h3] at hf; cases hf
 have hle : k.le (k.wd (k.w.setO c o')) :=
  K.le_of h _ rfl (fun _ _ h => h) (fun _ _ h => h) (fun _ _ h => h) (fun _ _ _ h => h) (fun x c h _ => ⟨x, h⟩) (fun x n hf => Cx (hne x n hf))
   (fun x o hu => ⟨(Cx (by rintro rfl; exact hu.2.1 b hb)).trans hu.1, hu.2.1, hu.2.2⟩)
   (fun y cs1 e1 fr1 hh1 => by
    by_cases hxc : y = c
    ·subst hxc
     rw [h4] at hh1; cases hh1
     cases x with
     | cells cs e => exact absurd rfl (hnc _ _)
     | siter s p => cases h6
     | map es cl => obtain ⟨_, h7, _⟩ := h6; cases h7
     | miter m si se cl => obtain ⟨_, _, h7⟩ := h6; cases h7
    ·exact ⟨cs1, fr1, (Cx hxc).trans hh1, rfl⟩)
 refine ⟨⟨h.base, ?_, fun b' y hy => ?_, h.next, fun b' c' hb' => ?_, h.inj_put ⟨_, hx⟩, fun x n hf => ?_, fun id e' ht => ?_, h.tnext, h.odom, h.tinj, h.liv⟩, hle⟩
 ·exact h.below.trans ⟨rfl, rfl, rfl, by simp [K.wd, World.setO], fun x hx => Cx (by omega)⟩
 ·simp only [St.put, Tr.get_set] at hy
  split at hy
  ·rename_i hbb
   cases hy
   exact ⟨c, _, by rw [hbb]; exact hb, h2, h3, T0 h4, hr.mono hle⟩
  ·rename_i hbb
   obtain ⟨c', o1, g1, g2, g3, g4, g5⟩ := h.blk b' y hy
   have : c' ≠ c := by rintro rfl; exact hbb (h.inj b' b _ _ _ hy hx g1 hb)
   exact ⟨c', o1, g1, g2, g3, (Cx this).trans g4, g5.mono hle⟩
 ·have := h.dom b' c' hb'
  simpa [K.wd, World.setO] using this
 ·obtain ⟨cs1, e1, fr, hh, hn⟩ := h.frz x n hf
  exact ⟨cs1, e1, fr, (Cx (hne x n hf)).trans hh, hn⟩
 ·obtain ⟨hl, x, n, cs1, lo, hi, g1, g2, g3, g4, g5⟩ := h.tok id e' ht
  exact ⟨hl, x, n, cs1, lo, hi, g1, g2, g3, (Cx (hne x n g3)).trans g4, g5⟩

def K.grow (k : K) (c n id id' : Nat) (us : Array Value) : K :=
 { base := k.base, w := k.w.setRow c us, blk := k.blk, frz := fun x => if x = c then some n else k.frz x, own := fun x => if x = id' then some c else k.own x, live := fun x => if x = id' then true else if x = id then false else k.live x }
theorem Inv.grow (h : Inv w0 σ k) {id c n n' : Nat} {cs us : Array Value} {e : TypeId} {lo hi : Nat} (ht : σ.toks.get id = some e) (ho : k.own id = some c) (hf : k.frz c = some n) (hn : n ≤ n')
  (hh : k.w.heap[c]? = some (.cells cs e (lo, hi))) (hr : lo = hi ∨ hi ≤ n) (hB : w0.heap.size ≤ c) (hsz : us.size = cs.size) (hn' : n' ≤ us.size) (hsame : ∀ i, i < n → us[i]? = cs[i]?) :
  Inv w0 ((σ.untok id).tok e) (k.grow c n' id σ.nextT us) ∧ k.le (k.grow c n' id σ.nextT us) := by
 have hid : ∀ id c, k.own id = some c → id ≠ σ.nextT := by
  rintro id c ho rfl
  rw [h.tnext _ (Nat.le_refl _)] at ho; cases ho
 have hc : (k.w.setRow c us).heap[c]? = some (.cells us e (lo, hi)) := setRow_heap _ _ _ _ _ _ hh
 have hbc : ∀ b x, k.blk b = some x → (∃ y, σ.blks.get b = some y) → x ≠ c := by
  rintro b x hb ⟨y, hy⟩ rfl
  exact h.frz_ne hy hb hf
 have hle : k.le (k.grow c n' id σ.nextT us) := by
  refine ⟨?_, fun x o hu => ?_, fun x m hm hno => ?_⟩
  rotate_left
  ·have hxc : x ≠ c := by rintro rfl; have := hu.2.2; rw [hf] at this; cases this
   exact ⟨(setRow_other _ _ _ _ hxc).trans hu.1, hu.2.1, by simp only [K.grow, if_neg hxc]; exact hu.2.2⟩
  ·have hxc : x ≠ c := by rintro rfl; exact hno _ ho
   simp only [K.grow, if_neg hxc]; exact hm
  refine ⟨rfl, fun _ _ h => h, fun x m hm => ?_, fun x m i hm hi' => ?_, fun x y hx => by simp only [K.grow, if_neg (hid x y hx)]; exact hx, fun x y hx hl => ?_, fun x m hm hno y hy => ?_, fun x cs1 e1 fr1 h1 => ?_⟩
  ·simp only [K.grow]
   by_cases hxc : x = c
   ·subst hxc; rw [hf] at hm; cases hm; exact ⟨n', hn, if_pos rfl⟩
   ·rw [if_neg hxc]; exact ⟨m, Nat.le_refl _, hm⟩
  ·simp only [K.grow]
   by_cases hxc : x = c
   ·subst hxc
    rw [hf] at hm; cases hm
    rw [Bl hc, Bl hh]; exact hsame i hi'
   ·exact cell_of_heap (setRow_other _ _ _ _ hxc)
  ·have hne := hid x y hx
   simp only [K.grow, if_neg hne] at hl ⊢
   split at hl
   ·cases hl
   ·rename_i hxi
    refine ⟨hl, ?_⟩
    by_cases hyc : y = c
    ·subst hyc
     obtain ⟨e', he'⟩ := h.liv x y hx hl
     exact absurd (h.tinj x id e' e y he' ht hx ho) hxi
    ·rw [if_neg hyc]
  ·simp only [K.grow] at hy
   split at hy
   ·cases hy; exact hno id ho
   ·exact hno y hy
  ·by_cases hxc : x = c
   ·subst hxc
    rw [hh] at h1; cases h1
    exact ⟨us, _, hc, hsz⟩
   ·exact ⟨cs1, fr1, (setRow_other _ _ _ _ hxc).trans h1, rfl⟩
 refine ⟨⟨h.base, ?_, fun b y hy => ?_, h.next, fun b x hb => ?_, h.inj, fun x m hm => ?_, fun x e' hx => ?_, fun x hx => ?_, fun x y hx => ?_, fun x y e1 e2 z h1 h2 o1 o2 => ?_, fun x y hx hl => ?_⟩, hle⟩
 ·exact h.below.trans ⟨rfl, rfl, rfl, by simp [K.grow], fun x hx => setRow_other _ _ _ _ (by omega)⟩
 ·obtain ⟨c', o', h1, h2, h3, h4, h5⟩ := h.blk b y hy
  have hne : c' ≠ c := hbc b c' h1 ⟨y, hy⟩
  exact ⟨c', o', h1, h2, by simp only [K.grow, if_neg hne]; exact h3, (setRow_other _ _ _ _ hne).trans h4, h5.mono hle⟩
 ·have := h.dom b x hb
  simp only [K.grow, setRow_size]; exact this
 ·simp only [K.grow] at hm
  split at hm
  ·rename_i hxc
   cases hm
   exact ⟨us, e, (lo, hi), by rw [hxc]; exact hc, hn'⟩
  ·rename_i hxc
   obtain ⟨cs1, e1, fr, g1, g2⟩ := h.frz x m hm
   exact ⟨cs1, e1, fr, (setRow_other _ _ _ _ hxc).trans g1, g2⟩
 ·simp only [St.tok, St.untok, Tr.get_set, Tr.get_del] at hx
  split at hx
  ·rename_i hxi
   cases hx
   exact ⟨by simp [K.grow, hxi], c, n', us, lo, hi, by simp [K.grow, hxi], hB, by simp [K.grow], hc, by omega⟩
  ·rename_i hxi
   split at hx
   ·cases hx
   ·rename_i hxid
    obtain ⟨hl, x', m, cs1, lo1, hi1, g1, g2, g3, g4, g5⟩ := h.tok x e' hx
    have hne : x' ≠ c := by
     rintro rfl
     exact hxid (h.tinj x id e' e x' hx ht g1 ho)
    exact ⟨by simp only [K.grow, if_neg hxi, if_neg hxid]; exact hl, x', m, cs1, lo1, hi1, by simp only [K.grow, if_neg hxi]; exact g1, g2, by simp only [K.grow, if_neg hne]; exact g3, (setRow_other _ _ _ _ hne).trans g4, g5⟩
 ·simp only [St.tok, St.untok] at hx
  simp only [K.grow, if_neg (show x ≠ σ.nextT by omega)]
  exact h.tnext x (by omega)
 ·simp only [K.grow] at hx ⊢
  split at hx
  ·cases hx; exact ⟨n', if_pos rfl⟩
  ·obtain ⟨m, hm⟩ := h.odom x y hx
   by_cases hyc : y = c
   ·exact ⟨n', if_pos hyc⟩
   ·exact ⟨m, by rw [if_neg hyc]; exact hm⟩
 ·simp only [St.tok, St.untok, Tr.get_set, Tr.get_del] at h1 h2
  simp only [K.grow] at o1 o2
  by_cases hx : x = σ.nextT <;> by_cases hy : y = σ.nextT
  ·rw [hx, hy]
  ·rw [if_pos hx] at o1; cases o1
   rw [if_neg hy] at h2 o2
   split at h2
   ·cases h2
   ·rename_i hyi; exact absurd (h.tinj y id e2 e c h2 ht o2 ho) hyi
  ·rw [if_pos hy] at o2; cases o2
   rw [if_neg hx] at h1 o1
   split at h1
   ·cases h1
   ·rename_i hxi; exact absurd (h.tinj x id e1 e c h1 ht o1 ho) hxi
  ·rw [if_neg hx] at h1 o1
   rw [if_neg hy] at h2 o2
   split at h1
   ·cases h1
   ·split at h2
    ·cases h2
    ·exact h.tinj x y e1 e2 z h1 h2 o1 o2
 ·simp only [St.tok, St.untok, Tr.get_set, Tr.get_del]
  by_cases hxi : x = σ.nextT
  ·exact ⟨e, if_pos hxi⟩
  ·simp only [K.grow, if_neg hxi] at hx hl
   split at hl
   ·cases hl
   ·rename_i hxid
    obtain ⟨e', he⟩ := h.liv x y hx hl
    exact ⟨e', by rw [if_neg hxi, if_neg hxid]; exact he⟩

def K.seal_ (k : K) (c id : Nat) : K :=
 { k with frz := fun x => if x = c then some 0 else k.frz x, own := fun x => if x = id then some c else k.own x, live := fun x => if x = id then true else k.live x }
theorem Inv.seal_ (h : Inv w0 σ k) {b c : Nat} {cs : List A} {e : TypeId} (hx : σ.blks.get b = some (.cells cs e)) (hb : k.blk b = some c) (hex : e < Hw) :
  Inv w0 ((σ.kill b).tok e) (k.seal_ c σ.nextT) ∧ k.le (k.seal_ c σ.nextT) := by
 obtain ⟨c', o, h1, h2, h3, h4, us, ws, e2, rfl, h5, h6⟩ := h.blk b _ hx
 obtain ⟨he2, rfl⟩ := h5 hex
 rw [he2, List.append_nil] at h4
 rw [hb] at h1; cases h1
 have hid : ∀ id c, k.own id = some c → id ≠ σ.nextT := by
  rintro id c ho rfl
  rw [h.tnext _ (Nat.le_refl _)] at ho; cases ho
 have hne : ∀ x n, k.frz x = some n → x ≠ c := by rintro x n hf rfl; rw [h3] at hf; cases hf
 have hoc : ∀ x, k.own x ≠ some c := fun x hx => by obtain ⟨n, hn⟩ := h.odom x c hx; exact hne _ _ hn rfl
 have hle : k.le (k.seal_ c σ.nextT) := by
  refine K.le_of h _ rfl (fun _ _ h => h) (fun x n hf => by simp only [K.seal_, if_neg (hne x n hf)]; exact hf) (fun id c ho => by simp only [K.seal_, if_neg (hid id c ho)]; exact ho)
   (fun id c ho hl => by simp only [K.seal_, if_neg (hid id c ho)] at hl; exact hl) (fun id x ho hx => ?_) (fun _ _ _ => rfl)
   (fun x o hu => by
    have hxc : x ≠ c := by rintro rfl; exact hu.2.1 b hb
    exact ⟨hu.1, hu.2.1, by simp only [K.seal_, if_neg hxc]; exact hu.2.2⟩) (fun _ cs _ fr h => ⟨cs, fr, h, rfl⟩)
  simp only [K.seal_] at ho
  split at ho
  ·cases ho
   obtain ⟨n, hn⟩ := hx
   exact absurd rfl (hne _ n hn)
  ·exact ⟨id, ho⟩
 refine ⟨⟨h.base, h.below, fun b' y hy => ?_, h.next, h.dom, h.inj_kill, fun x m hf => ?_, fun x e' ht => ?_, fun x hx => ?_, fun x y ho => ?_, fun x y e1 e2 z h1 h2 o1 o2 => ?_, fun x y ho hl => ?_⟩, hle⟩
 ·simp only [St.kill, St.tok, Tr.get_del] at hy
  split at hy
  ·cases hy
  ·rename_i hbb
   obtain ⟨c', o', g1, g2, g3, g4, g5⟩ := h.blk b' y hy
   have : c' ≠ c := by rintro rfl; exact hbb (h.inj b' b _ _ _ hy hx g1 hb)
   exact ⟨c', o', g1, g2, by simp only [K.seal_, if_neg this]; exact g3, g4, g5.mono hle⟩
 ·simp only [K.seal_] at hf
  split at hf
  ·rename_i hxc
   cases hf
   exact ⟨us.toArray, e, (0, 0), by rw [hxc]; exact h4, Nat.zero_le _⟩
  ·exact h.frz x m hf
 ·simp only [St.kill, St.tok, Tr.get_set] at ht
  split at ht
  ·rename_i hxi
   cases ht
   exact ⟨by simp [K.seal_, hxi], c, 0, us.toArray, 0, 0, by simp [K.seal_, hxi], h2, by simp [K.seal_], h4, .inl rfl⟩
  ·rename_i hxi
   obtain ⟨hl, x', m, cs1, lo1, hi1, g1, g2, g3, g4, g5⟩ := h.tok x e' ht
   exact ⟨by simp only [K.seal_, if_neg hxi]; exact hl, x', m, cs1, lo1, hi1, by simp only [K.seal_, if_neg hxi]; exact g1, g2, by simp only [K.seal_, if_neg (hne _ _ g3)]; exact g3, g4, g5⟩
 ·simp only [St.kill, St.tok] at hx
  simp only [K.seal_, if_neg (show x ≠ σ.nextT by omega)]
  exact h.tnext x (by omega)
 ·simp only [K.seal_] at ho ⊢
  split at ho
  ·cases ho; exact ⟨0, if_pos rfl⟩
  ·obtain ⟨m, hm⟩ := h.odom x y ho
   exact ⟨m, by rw [if_neg (hne _ _ hm)]; exact hm⟩
 ·simp only [St.kill, St.tok, Tr.get_set] at h1 h2
  simp only [K.seal_] at o1 o2
  by_cases hx : x = σ.nextT <;> by_cases hy : y = σ.nextT
  ·rw [hx, hy]
  ·rw [if_pos hx] at o1; cases o1
   rw [if_neg hy] at o2
   exact absurd o2 (hoc _)
  ·rw [if_pos hy] at o2; cases o2
   rw [if_neg hx] at o1
   exact absurd o1 (hoc _)
  ·rw [if_neg hx] at h1 o1
   rw [if_neg hy] at h2 o2
   exact h.tinj x y e1 e2 z h1 h2 o1 o2
 ·simp only [St.kill, St.tok, Tr.get_set]
  by_cases hxi : x = σ.nextT
  ·exact ⟨e, if_pos hxi⟩
  ·simp only [K.seal_, if_neg hxi] at ho hl
   obtain ⟨e', he⟩ := h.liv x y ho hl
   exact ⟨e', by rw [if_neg hxi]; exact he⟩

theorem Inv.freeze (h : Inv w0 σ k) {c n a m : Nat} {cs : Array Value} {e : TypeId} {lo hi : Nat} (hf : k.frz c = some n) (hh : k.w.heap[c]? = some (.cells cs e (lo, hi)))
  (hB : w0.heap.size ≤ c) (hm : (∀ id, k.own id ≠ some c) ∨ (a + m ≤ n ∧ (lo = hi ∨ hi ≤ n))) :
  Inv w0 σ (k.wd (k.w.freeze ⟨c, a, none⟩ m)) ∧ k.le (k.wd (k.w.freeze ⟨c, a, none⟩ m)) := by
 obtain ⟨lo', hi', hc, ho, hlt⟩ : ∃ lo' hi', (k.w.freeze ⟨c, a, none⟩ m).heap[c]? = some (.cells cs e (lo', hi')) ∧ (∀ x, x ≠ c → (k.w.freeze ⟨c, a, none⟩ m).heap[x]? = k.w.heap[x]?) ∧ ((a + m ≤ n ∧ (lo = hi ∨ hi ≤ n)) → lo' = hi' ∨ hi' ≤ n) := by
  by_cases hm0 : m = 0
  ·subst hm0
   exact ⟨lo, hi, by simpa [World.freeze] using hh, fun x _ => by simp [World.freeze], fun h => h.2⟩
  ·by_cases hl : lo = hi
   ·refine ⟨a, a + m, ?_, fun x hx => ?_, fun h => .inr h.1⟩
    ·simp [World.freeze, hm0, Array.getElem?_modify, hh, hl]
    ·simp only [World.freeze, if_neg hm0]
     rw [Array.getElem?_modify, if_neg (fun e => hx e.symm)]
   ·refine ⟨min lo a, max hi (a + m), ?_, fun x hx => ?_, fun h => .inr ?_⟩
    ·simp [World.freeze, hm0, Array.getElem?_modify, hh, hl]
    ·simp only [World.freeze, if_neg hm0]
     rw [Array.getElem?_modify, if_neg (fun e => hx e.symm)]
    ·rcases h.2 with h2 | h2
     ·exact absurd h2 hl
     ·exact Nat.max_le.2 ⟨h2, h.1⟩
 have hsz : (k.w.freeze ⟨c, a, none⟩ m).heap.size = k.w.heap.size := by
  simp only [World.freeze]; split <;> simp
 have hle : k.le (k.wd (k.w.freeze ⟨c, a, none⟩ m)) := by
  refine ⟨?_, fun x o hu => ?_, fun _ _ h _ => h⟩
  rotate_left
  ·have hxc : x ≠ c := by rintro rfl; have := hu.2.2; rw [hf] at this; cases this
   exact ⟨(ho x hxc).trans hu.1, hu.2.1, hu.2.2⟩
  refine ⟨rfl, fun _ _ h => h, fun x y e => ⟨y, Nat.le_refl _, e⟩, fun x y i e _ => ?_, fun _ _ h => h, fun _ _ _ h => ⟨h, rfl⟩, fun _ _ _ h => h, fun x cs1 e1 fr1 h1 => ?_⟩
  ·by_cases hx : x = c
   ·subst hx; show (k.w.freeze ⟨x, a, none⟩ m).cell? _ = _; rw [Bl hc, Bl hh]
   ·exact cell_of_heap (ho x hx)
  ·by_cases hx : x = c
   ·subst hx; rw [hh] at h1; cases h1; exact ⟨cs, _, hc, rfl⟩
   ·exact ⟨cs1, fr1, (ho x hx).trans h1, rfl⟩
 refine ⟨⟨h.base, ?_, fun b y hy => ?_, h.next, fun b x hb => ?_, h.inj, fun x y hx => ?_, fun x e' hx => ?_, h.tnext, h.odom, h.tinj, h.liv⟩, hle⟩
 ·refine h.below.trans ⟨?_, ?_, ?_, by rw [K.wd, hsz]; exact Nat.le_refl _, fun x hx => ho x (by omega)⟩ <;> (simp only [K.wd, World.freeze]; split <;> rfl)
 ·obtain ⟨c', o', g1, g2, g3, g4, g5⟩ := h.blk b y hy
  have : c' ≠ c := by rintro rfl; rw [g3] at hf; cases hf
  exact ⟨c', o', g1, g2, g3, (ho _ this).trans g4, g5.mono hle⟩
 ·have := h.dom b x hb
  rw [K.wd, hsz]; exact this
 ·by_cases hxc : x = c
  ·subst hxc
   obtain ⟨cs1, e1, fr, g1, g2⟩ := h.frz x y hx
   rw [hh] at g1; cases g1
   exact ⟨cs, _, _, hc, g2⟩
  ·obtain ⟨cs1, e1, fr, g1, g2⟩ := h.frz x y hx
   exact ⟨cs1, e1, fr, (ho x hxc).trans g1, g2⟩
 ·obtain ⟨hl, x', m', cs1, lo1, hi1, g1, g2, g3, g4, g5⟩ := h.tok x e' hx
  by_cases hxc : x' = c
  ·subst hxc
   rcases hm with hm | hm
   ·exact absurd g1 (hm x)
   ·rw [hh] at g4; cases g4
    rw [hf] at g3; cases g3
    exact ⟨hl, x', n, cs, lo', hi', g1, g2, hf, hc, hlt hm⟩
  ·exact ⟨hl, x', m', cs1, lo1, hi1, g1, g2, g3, (ho _ hxc).trans g4, g5⟩
end
end Go.DM
namespace Go.DM
open Go Go.RowKit

section
variable {P : Program} {w : World}
theorem W6 {α : Type} (s : Sem α) : ∀ {x : α}, det P s = some x → ∀ w, s.run P w = .ok x w := by
 induction s with
 | pure a => intro x h w; simp only [det] at h; cases h; rfl
 | program k ih => intro x h w; exact ih P h w
 | mark m k ih => intro x h w; exact ih h w
 | _ => intro x h; simp [det] at h
theorem Fv {t : TypeId} {b : Bool} (h : Ef P t = some b) : (isAgg t).run P w = .ok b w := by
 unfold Ef at h
 unfold isAgg
 split at h
 ·cases h; rename_i hu; simp [run_underlying hu]
 ·cases h; rename_i hu; simp [run_underlying hu]
 ·cases h; rename_i d h1 h2 hu
  simp only [Sem.run_bind, run_underlying hu, Result.andThen_ok]
  cases d <;> first | rfl | (exact absurd rfl (h1 _)) | (exact absurd rfl (h2 _ _))
 ·cases h
theorem Ba {t : TypeId} {i : TypeInfo} (h : P.info? t = some i) : (sizeOf t).run P w = .ok i.size w := by simp [sizeOf, typeInfo, h]
theorem Bu {t : TypeId} {i : TypeInfo} (h : P.info? t = some i) : (typeInfo t).run P w = .ok i w := by simp [typeInfo, h]
end

section
variable {k : K}
theorem Jd : ∀ {cs : List A} {us us' : List Value}, cs.length = us.length → (∀ (j : Nat) (a : A) (u : Value), cs[j]? = some a → us[j]? = some u → ∀ u', Bo a = some u' → u' = u) → toVals cs = some us' → us' = us
 | [], us, us', hl, _, h => by
  simp only [toVals] at h; cases h
  simp at hl; exact (List.eq_nil_of_length_eq_zero hl.symm).symm
 | a :: cs, us, us', hl, hr, h => by
  match us, hl with
  | u :: us, hl =>
   simp only [toVals] at h
   split at h
   ·rename_i u1 h1
    split at h
    ·rename_i us1 h2
     cases h
     rw [hr 0 a u rfl rfl u1 h1, Jd (by simpa using hl) (fun j x y hx hy => hr (j + 1) x y (by simpa using hx) (by simpa using hy)) h2]
    ·cases h
   ·cases h
theorem T1 {a : A} {u : Value} (h : Rel k a u) : ∀ {u'}, Bo a = some u' → u' = u := by
 induction h with
 | v hs => intro u' h; simp only [Bo] at h; cases h; rfl
 | ifc _ ih =>
  intro u' h
  simp only [Bo] at h
  split at h
  ·rename_i y hy; cases h; rw [ih hy]
  ·cases h
 | agg hl _ ih =>
  intro u' h
  simp only [Bo] at h
  split at h
  ·rename_i us' hy; cases h; rw [Jd hl (fun j a u ha hu u' => ih j a u ha hu) hy]
  ·cases h
 | tup hl _ ih =>
  intro u' h
  simp only [Bo] at h
  split at h
  ·rename_i us' hy; cases h; rw [Jd hl (fun j a u ha hu u' => ih j a u ha hu) hy]
  ·cases h
 | @fn f first cap us vs h1 h2 _ _ _ _ =>
  intro u' h
  cases first with
  | nil => cases cap with
   | nil =>
    simp only [Bo] at h; cases h
    simp at h1 h2
    rw [List.eq_nil_of_length_eq_zero h1.symm, List.eq_nil_of_length_eq_zero h2.symm]
   | cons _ _ => simp [Bo] at h
  | cons _ _ => simp [Bo] at h
 | _ => intro u' h; simp [Bo] at h

theorem K1 {x : Value} {a : A} (h : Ks x = some a) : Rel k a x := by
 unfold Ks at h
 split at h
 ·rename_i hs; cases h; exact .v hs
 ·cases h
theorem J3 : ∀ {us : List Value} {as : List A}, Ia us = some as → RelL k as us
 | [], as, h => by simp only [Ia] at h; cases h; exact RelL.nil k
 | x :: r, as, h => by
  simp only [Ia] at h
  split at h
  ·rename_i a ha
   split at h
   ·rename_i as' hs; cases h; exact RelL.cons (K1 ha) (J3 hs)
   ·cases h
  ·cases h
theorem Fw {x : Value} {a : A} (h : Gn x = some a) : Rel k a x := by
 unfold Gn at h
 split at h
 ·split at h
  ·rename_i as hs
   cases h
   obtain ⟨h1, h2⟩ := J3 (k := k) hs
   exact .agg h1 h2
  ·cases h
 ·split at h
  ·rename_i f first cap hs
   cases h
   have e1 : first = ([] : List Value).toArray := by simpa using hs.1
   have e2 : cap = ([] : List Value).toArray := by simpa using hs.2
   rw [e1, e2]
   exact .fn rfl rfl (fun j a u h => by simp at h) (fun j a u h => by simp at h)
  ·cases h
 ·exact K1 h
theorem K2 {x : Value} {a : A} (h : Nl x = some a) : Rel k a x := by
 unfold Nl at h
 split at h
 ·split at h
  ·rename_i y hy; cases h; exact .ifc (Fw hy)
  ·cases h
 ·exact Fw h
theorem J4 : ∀ {us : List Value} {as : List A}, Ib us = some as → RelL k as us
 | [], as, h => by simp only [Ib] at h; cases h; exact RelL.nil k
 | x :: r, as, h => by
  simp only [Ib] at h
  split at h
  ·rename_i a ha
   split at h
   ·rename_i as' hs; cases h; exact RelL.cons (K2 ha) (J4 hs)
   ·cases h
  ·cases h
theorem G8 {x : Value} {a : A} (h : Ee x = some a) : Rel k a x := by
 unfold Ee at h
 split at h
 ·split at h
  ·rename_i as hs
   cases h
   obtain ⟨h1, h2⟩ := J4 (k := k) hs
   exact .tup h1 h2
  ·cases h
 ·exact K2 h

theorem D0 {cs : List A} {us : List Value} (h : RelL k cs us) : Rel k (.agg cs) (.agg us.toArray) := .agg h.1 h.2
theorem Ct {b : Bool} : Rel k (.v (.bool b)) (.bool b) := .v rfl
theorem D1 {i : IntKind} {n : Int} : Rel k (.v (.int i n)) (.int i n) := .v rfl
theorem Er : Rel k und undef := .tup (cs := []) (us := []) rfl (fun j a u h => by simp at h)
theorem E7 {a b : A} {u v : Value} (h : Rel k a u) (g : Rel k b v) : Rel k (.tup [a, b]) (.tuple #[u, v]) := by
 obtain ⟨h1, h2⟩ := RelL.cons h (RelL.cons g (RelL.nil k))
 exact .tup (us := [u, v]) h1 h2

def CellsAt (k : K) (c i : Nat) (cs : List A) : Prop := ∀ (j : Nat) (a : A), cs[j]? = some a → ∃ u, k.w.cell? ⟨c, i + j, none⟩ = some u ∧ Rel k a u
theorem CellsAt.list {c i : Nat} : ∀ {cs : List A}, CellsAt k c i cs → ∃ us, RelL k cs us ∧ ∀ (j : Nat) (v : Value), us[j]? = some v → k.w.cell? ⟨c, i + j, none⟩ = some v
 | [], _ => ⟨[], RelL.nil k, fun j v h => by simp at h⟩
 | a :: cs, h => by
  obtain ⟨u, h1, h2⟩ := h 0 a rfl
  obtain ⟨us, h3, h4⟩ := CellsAt.list (cs := cs) (i := i + 1) (fun j x hx => by
   obtain ⟨u, g1, g2⟩ := h (j + 1) x (by simpa using hx)
   exact ⟨u, by rw [← g1]; congr 2; omega, g2⟩)
  refine ⟨u :: us, RelL.cons h2 h3, fun j v hv => ?_⟩
  cases j with
  | zero => simp at hv; subst hv; exact h1
  | succ j =>
   simp at hv
   have := h4 j v hv
   rw [← this]; congr 2; omega
theorem CellsAt.sub {c i : Nat} {cs : List A} (h : CellsAt k c i cs) (o n : Nat) : CellsAt k c (i + o) ((cs.drop o).take n) := by
 intro j a ha
 rw [List.getElem?_take] at ha
 split at ha
 ·rw [List.getElem?_drop] at ha
  obtain ⟨u, h1, h2⟩ := h _ a ha
  exact ⟨u, by rw [← h1]; congr 2; omega, h2⟩
 ·cases ha
theorem A6 (c i j : Nat) : (⟨c, i, none⟩ : Addr).add j = ⟨c, i + j, none⟩ := by
 unfold Addr.add; split
 ·rename_i h; subst h; rfl
 ·rfl
theorem CellsAt.load {P : Program} {c i : Nat} {cs : List A} (h : CellsAt k c i cs) : ∃ us, RelL k cs us ∧ (loadCells ⟨c, i, none⟩ cs.length).run P k.w = .ok us.toArray k.w := by
 obtain ⟨us, h1, h2⟩ := h.list
 refine ⟨us, h1, ?_⟩
 have := run_loadCells_list (P := P) k.w ⟨c, i, none⟩ us (fun j v hv => by rw [A6]; exact h2 j v hv)
 rw [h1.1]; exact this
theorem J5 {P : Program} {c i o : Nat} {cs : List A} {t : TypeId} {a : A} (h : CellsAt k c i cs) (hl : loadAt P t cs o = some a) :
  ∃ v, (loadVar t ⟨c, i + o, none⟩).run P k.w = .ok v k.w ∧ Rel k a v := by
 unfold loadAt at hl
 split at hl
 ·rename_i ti ha hi
  split at hl
  ·rename_i hb
   cases hl
   obtain ⟨us, h1, h2⟩ := (h.sub o ti.size).load (P := P)
   have hlen : ((cs.drop o).take ti.size).length = ti.size := by simp; omega
   rw [hlen] at h2
   refine ⟨.agg us.toArray, ?_, D0 h1⟩
   simp [loadVar, Fv ha, Ba hi, h2]
  ·cases hl
 ·rename_i ha hi
  obtain ⟨u, h1, h2⟩ := h _ a hl
  refine ⟨u, ?_, h2⟩
  simp [loadVar, Fv ha, h1]
 ·cases hl
end

section
variable {P : Program} {w0 : World} {σ : St} {k : K}
theorem Inv.cellsAt (hI : Inv w0 σ k) {b c : Nat} {cs : List A} {e : TypeId} (hc : σ.cells b = some (cs, e)) (hb : k.blk b = some c) :
  CellsAt k c 0 cs ∧ σ.blks.get b = some (.cells cs e) ∧ ∃ (us ws : List Value) (e' : TypeId), k.w.heap[c]? = some (.cells (us ++ ws).toArray e' (0, 0)) ∧ RelL k cs us ∧ w0.heap.size ≤ c ∧ (e < Hw → e' = e ∧ ws = []) := by
 unfold St.cells at hc
 split at hc
 ·rename_i cs' e' hg
  cases hc
  obtain ⟨c', o, h1, h2, h3, h4, us, ws, e', rfl, h6, h5⟩ := hI.blk b _ hg
  rw [hb] at h1; cases h1
  refine ⟨fun j a ha => ?_, hg, us, ws, e', h4, h5, h2, h6⟩
  obtain ⟨u, g1, g2⟩ := h5.get ha
  have hj : j < us.length := Be g1
  exact ⟨u, by rw [Bl h4, Nat.zero_add, List.getElem?_toArray, List.getElem?_append_left hj]; exact g1, g2⟩
 ·cases hc
theorem Inv.cellsEx (hI : Inv w0 σ k) {b c : Nat} {cs : List A} {e : TypeId} (hc : σ.cells b = some (cs, e)) (hb : k.blk b = some c) (he : e < Hw) :
  CellsAt k c 0 cs ∧ σ.blks.get b = some (.cells cs e) ∧ ∃ us : List Value, k.w.heap[c]? = some (.cells us.toArray e (0, 0)) ∧ RelL k cs us ∧ w0.heap.size ≤ c := by
 obtain ⟨h1, h2, us, ws, e', h3, h4, h5, h6⟩ := hI.cellsAt hc hb
 obtain ⟨rfl, rfl⟩ := h6 he
 rw [List.append_nil] at h3
 exact ⟨h1, h2, us, h3, h4, h5⟩
theorem J6 (hI : Inv w0 σ k) {t : TypeId} {x a : A} {u : Value} (hx : Rel k x u) (h : Ci P t x σ = some a) : ∃ v, (Instr.loadAt t u).run P k.w = .ok v k.w ∧ Rel k a v := by
 unfold Ci at h
 split at h
 ·split at h
  ·rename_i b o cs e hc
   cases hx with
   | ptr hb =>
    obtain ⟨g, _⟩ := hI.cellsAt hc hb
    obtain ⟨v, h1, h2⟩ := J5 (P := P) g h
    exact ⟨v, by simp only [Instr.loadAt, Instr.sureAddr, Sem.run_bind, Sem.run_pure, Result.andThen_ok]; rw [← h1]; simp, h2⟩
  ·cases h
 ·rename_i cs o ap
  cases hx with
  | sp u hf hl hc hr hs =>
   obtain ⟨v, h1, h2⟩ := J5 (P := P) (k := k) (fun j a ha => ⟨_, hc j a ha, hr j a ha⟩) h
   exact ⟨v, by simp only [Instr.loadAt, Instr.sureAddr, Sem.run_bind, Sem.run_pure, Result.andThen_ok]; exact h1, h2⟩
 ·cases h

theorem Rel.cells {k : K} {a : A} {u : Value} (h : Rel k a u) (hj : a ≠ .junk) : RelL k a.cells u.cells.toList := by
 cases h with
 | junk => exact absurd rfl hj
 | agg h1 h2 => exact ⟨h1, h2⟩
 | v hs =>
  have : u.cells = #[u] := by cases u <;> first | rfl | (simp [Tx] at hs)
  rw [this]; exact RelL.cons (.v hs) (RelL.nil k)
 | ptr hb => exact RelL.cons (.ptr hb) (RelL.nil k)
 | sp u a b c d e => exact RelL.cons (.sp u a b c d e) (RelL.nil k)
 | sl u a b c d e f g h => exact RelL.cons (.sl u a b c d e f g h) (RelL.nil k)
 | sl0 hz => exact RelL.cons (.sl0 hz) (RelL.nil k)
 | ms a b c => exact RelL.cons (.ms a b c) (RelL.nil k)
 | mv a b c d => exact RelL.cons (.mv a b c d) (RelL.nil k)
 | mp a => exact RelL.cons (.mp a) (RelL.nil k)
 | fn a b c d => exact RelL.cons (.fn a b c d) (RelL.nil k)
 | ifc a => exact RelL.cons (.ifc a) (RelL.nil k)
 | tup a b => exact RelL.cons (.tup a b) (RelL.nil k)
 | raw a b c d => exact RelL.cons (.raw a b c d) (RelL.nil k)
end
end Go.DM
namespace Go.DM
open Go Go.RowKit

def DefRel (k : K) (x : FuncId × List A) (d : Deferred) : Prop := ∃ us vs : List Value, d.target = .fn (.func x.1) vs.toArray ∧ d.args = us.toArray ∧ RelL k x.2 (us ++ vs)
theorem DefRel.mono0 {k k' : K} (h : k.le0 k') {x : FuncId × List A} {d : Deferred} (hd : DefRel k x d) : DefRel k' x d :=
 let ⟨us, vs, h1, h2, h3⟩ := hd; ⟨us, vs, h1, h2, h3.mono0 h⟩

def Good (_P : Program) (w0 : World) (k : K) (res : Result Next) : R → Prop
 | .val x σ' => ∃ k' v, res = .ok (.value v) k'.w ∧ Rel k' x v ∧ Inv w0 σ' k' ∧ k.le k'
 | .skip σ' => ∃ k', res = .ok .skip k'.w ∧ Inv w0 σ' k' ∧ k.le k'
 | .call f args σ' => ∃ k' us, res = .ok (.enter f us) k'.w ∧ RelL k' args us.toList ∧ Inv w0 σ' k' ∧ k.le k'
 | .pan x σ' => ∃ k' v, res = .halt (.panic v) k'.w ∧ Rel k' x v ∧ Inv w0 σ' k' ∧ k.le k'
 | .dfr f args σ' => ∃ k' d, res = .ok (.defer d) k'.w ∧ DefRel k' (f, args) d ∧ Inv w0 σ' k' ∧ k.le k'
 | .rcv σ' => ∃ k', res = .ok .recover k'.w ∧ Inv w0 σ' k' ∧ k.le k'

section
variable {C : Cfg} {w0 : World} {σ σ' : St} {k : K} {ρ : Operand → Option A} {ρ' : Operand → Value} {o : Oper} {r : R} {res : Result Next}

theorem C3 {x : A} {v : Value} (hI : Inv w0 σ k) (h : res = .ok (.value v) k.w) (hr : Rel k x v) : Good C.P w0 k res (.val x σ) :=
 ⟨k, v, h, hr, hI, K.le.refl k⟩

theorem K3 (hI : Inv w0 σ k) (hρ : ∀ x a, ρ x = some a → Rel k a (ρ' x)) (hs : ∀ cs b, o.op ≠ .select cs b) (h : Ao C ρ o σ = some r) : Good C.P w0 k ((execOp ρ' o).run C.P k.w) r := by
 unfold Ao at h
 split at h
 ·rename_i hp
  unfold Kz at h
  split at h
  ·rename_i u hd
   split at h
   ·rename_i a ha
    cases h
    have hc : execOp (Gf ρ) o = execOp ρ' o := by
     refine execOp_congr o hs (fun x hx => ?_)
     have hq := (List.all_eq_true.1 hp) x (Array.mem_toList_iff.2 hx)
     revert hq
     unfold Gf
     cases hxx : ρ x with
     | none => intro hq; simp at hq
     | some b =>
      intro hq
      cases hb : Bo b with
      | none => simp [hb] at hq
      | some y => simpa [hb] using T1 (hρ x b hxx) hb
    rw [hc] at hd
    exact C3 (C := C) hI (W6 _ hd k.w) (G8 ha)
   ·cases h
  ·cases h
 ·cases h

theorem Ay {x : Option A} (h : Br x σ = some r) : ∃ a, x = some a ∧ r = .val a σ := by
 unfold Br at h; split at h
 ·rename_i a; cases h; exact ⟨a, rfl, rfl⟩
 ·cases h
theorem B4 {x : Option (A × St)} (h : Ge x = some r) : ∃ a σ', x = some (a, σ') ∧ r = .val a σ' := by
 unfold Ge at h; split at h
 ·rename_i a s; cases h; exact ⟨a, s, rfl, rfl⟩
 ·cases h
theorem Fx {x : Option St} (h : Pb x = some r) : ∃ σ', x = some σ' ∧ r = .skip σ' := by
 unfold Pb at h; split at h
 ·rename_i s; cases h; exact ⟨s, rfl, rfl⟩
 ·cases h

theorem Q8 {a : A} {u : Value} (h : Rel k a u) (ho : Du a = true) : u.oneCell' = true := by
 cases h with
 | v hs => cases u <;> first | rfl | (simp [Tx] at hs)
 | agg _ _ => simp [Du] at ho
 | tup _ _ => simp [Du] at ho
 | junk => simp [Du] at ho
 | _ => rfl
theorem Cy {cs : List A} {us : List Value} (h : RelL k cs us) (ho : Bh cs = true) : ∀ v ∈ us, v.oneCell' = true := by
 intro v hv
 obtain ⟨j, hj⟩ := List.mem_iff_getElem?.1 hv
 have hlt : j < cs.length := by rw [h.1]; exact Be hj
 exact Q8 (h.2 j _ v (List.getElem?_eq_getElem hlt) hj) ((List.all_eq_true.1 ho) _ (List.getElem_mem hlt))
theorem Cj {x : A} (h : Bh x.cells = true) : x ≠ .junk := by
 rintro rfl; simp [Bh, A.cells, Du] at h

theorem RelL.splice {cs xs : List A} {us vs : List Value} (h : RelL k cs us) (g : RelL k xs vs) (o : Nat) : RelL k (splice cs o xs) (us.take o ++ vs ++ us.drop (o + vs.length)) := by
 unfold DM.splice
 rw [← g.1]
 exact ((h.take o).append g).append (h.drop _)

theorem Cz (P : Program) (c : Nat) (e : TypeId) (lo hi : Nat) : ∀ (vs : List Value) (i j : Nat) (us : List Value) (w : World), w.heap[c]? = some (.cells us.toArray e (lo, hi)) → i + j + vs.length ≤ us.length →
  (∀ v ∈ vs, v.oneCell' = true) → (lo = hi ∨ hi ≤ i + j) → (storeCells ⟨c, i, none⟩ vs j).run P w = .ok () (w.setRow c (us.take (i + j) ++ vs ++ us.drop (i + j + vs.length)).toArray)
 | [], i, j, us, w, hh, hl, _, _ => by
  simp only [storeCells, Sem.run_pure]
  simp only [List.append_nil, List.length_nil, Nat.add_zero, List.take_append_drop]
  congr 1
  have hlt := Ad hh
  obtain ⟨heap, tape, drawn, os, out⟩ := w
  simp only [World.setRow]
  congr 1
  apply Array.ext_getElem?
  intro n
  rw [Array.getElem?_modify]
  split
  ·rename_i hn; subst hn; simp only at hh; rw [hh]; rfl
  ·rfl
 | v :: vs, i, j, us, w, hh, hl, ho, hr => by
  have hlen : i + j < us.length := by simp at hl; omega
  have hcell : w.cell? ⟨c, i + j, none⟩ = some us[i + j] := by rw [Bl hh]; simp [hlen]
  have hfr : w.frozen? ⟨c, i + j, none⟩ = false := by
   rw [Q7 hh]
   rcases hr with hr | hr <;> simp <;> omega
  have hst : (store ⟨c, i + j, none⟩ v).run P w = .ok () (w.setRow c (us.set (i + j) v).toArray) := by
   rw [run_store P w _ v .plain (ho v (by simp))]
   simp only [hcell, hfr, Bool.false_eq_true, if_false]
   rw [setCell_eq_setRow w c (i + j) us.toArray e (lo, hi) v hh]
   simp
  have hh' : (w.setRow c (us.set (i + j) v).toArray).heap[c]? = some (.cells (us.set (i + j) v).toArray e (lo, hi)) := setRow_heap _ _ _ _ _ _ hh
  have ih := Cz P c e lo hi vs i (j + 1) (us.set (i + j) v) _ hh' (by simp at hl ⊢; omega) (fun x hx => ho x (by simp [hx])) (by omega)
  simp only [storeCells, Sem.run_bind]
  rw [A6, hst]
  simp only [Result.andThen_ok]
  rw [ih, setRow_setRow]
  congr 3
  have e1 : i + (j + 1) = i + j + 1 := by omega
  rw [e1]
  have h1 : List.take (i + j + 1) (us.set (i + j) v) = us.take (i + j) ++ [v] := by
   rw [List.take_succ_eq_append_getElem (by simp; exact hlen)]
   simp [List.take_set]
   rw [List.set_eq_of_length_le (by rw [List.length_take]; exact Nat.min_le_left _ _)]
  rw [h1, List.drop_set]
  simp only [List.length_cons]
  rw [if_pos (by omega)]
  simp only [List.append_assoc, List.cons_append, List.nil_append]
  congr 4
  omega
end
end Go.DM
namespace Go.DM
open Go Go.RowKit

section
variable {P : Program} {w0 : World} {σ σ' : St} {k : K}

theorem T2 {x : Value} {a : A} (h : Gn x = some a) : a ≠ .junk := by
 rintro rfl
 unfold Gn at h
 split at h
 ·split at h <;> cases h
 ·split at h <;> cases h
 ·unfold Ks at h; split at h <;> cases h
theorem C4 {t : TypeId} {cs : List A} (h : Fm P t = some cs) : ∃ i z us, P.info? t = some i ∧ i.zero = some z ∧ z.cells = us.toArray ∧ RelL k cs us := by
 unfold Fm at h
 split at h
 ·rename_i i hi
  split at h
  ·rename_i z hz
   split at h
   ·rename_i a ha
    cases h
    exact ⟨i, z, z.cells.toList, hi, hz, by simp, (Fw ha).cells (T2 ha)⟩
   ·cases h
  ·cases h
 ·cases h
theorem Hx {t : TypeId} {a : A} (h : Kt P t = some a) : ∃ i z, P.info? t = some i ∧ i.zero = some z ∧ Rel k a z := by
 unfold Kt at h
 split at h
 ·rename_i i hi
  split at h
  ·rename_i z hz
   exact ⟨i, z, hi, hz, Fw h⟩
  ·cases h
 ·cases h
theorem Am {w : World} {t : TypeId} {i : TypeInfo} {z : Value} (hi : P.info? t = some i) (hz : i.zero = some z) : (zeroValue t).run P w = .ok z w := by
 simp [zeroValue, typeInfo, hi, hz]
theorem Ii {t : TypeId} {n : Nat} (h : Al P t = some n) : ∃ i, P.info? t = some i ∧ i.size = n := by
 unfold Al at h
 cases hi : P.info? t with
 | none => simp [hi] at h
 | some i => simp [hi] at h; exact ⟨i, rfl, h⟩
theorem Ah {w : World} {t : TypeId} {n : Nat} (h : Al P t = some n) : (sizeOf t).run P w = .ok n w := by
 obtain ⟨i, h1, h2⟩ := Ii h
 rw [Ba h1, h2]

theorem Pe (hI : Inv w0 σ k) {cs : List A} {us : List Value} (e : TypeId) (h : RelL k cs us) :
  ∃ k', (newRow e us.toArray).run P k.w = .ok ⟨k.w.heap.size, 0, none⟩ k'.w ∧ Rel k' (.ptr σ.next 0) (.pointer (some ⟨k.w.heap.size, 0, none⟩)) ∧ Inv w0 (σ.push (.cells cs e)) k' ∧ k.le k' := by
 obtain ⟨h1, h2, h3⟩ := hI.push (x := .cells cs e) (o := .cells us.toArray e) (.of h)
 exact ⟨_, by simp [newRow, K.push], .ptr h3, h1, h2⟩

theorem Rel.spShift {cs : List A} {o c x : Nat} {ap : Ap} (h : Rel k (.sp cs o ap) (.pointer (some ⟨c, x, none⟩))) (d : Nat) : Rel k (.sp cs (o + d) .no) (.pointer (some ⟨c, x + d, none⟩)) := by
 cases h with
 | sp u a b e f g =>
  rw [Nat.add_assoc]
  exact .sp u a b e f trivial
theorem Rel.spInv {cs : List A} {o : Nat} {ap : Ap} {u : Value} (h : Rel k (.sp cs o ap) u) : ∃ c x, u = .pointer (some ⟨c, x, none⟩) := by
 cases h; exact ⟨_, _, rfl⟩
theorem Rel.slInv {sz : Nat} {cs : List A} {ap : Ap} {u : Value} (h : Rel k (.sl sz cs ap) u) : ∃ a cap, u = .slice (some a) (cs.length / sz) cap := by
 cases h with
 | sl u a b e f g => exact ⟨_, _, rfl⟩
 | @sl0 _ cap ad hz => exact ⟨ad, cap, by simp⟩
theorem Rel.slInv' {sz : Nat} {cs : List A} {ap : Ap} {u : Value} (h : Rel k (.sl sz cs ap) u) (hne : cs ≠ []) : ∃ c i cap, u = .slice (some ⟨c, i, none⟩) (cs.length / sz) cap ∧ Rel k (.sp cs 0 .no) (.pointer (some ⟨c, i, none⟩)) := by
 cases h with
 | sl u a b e f g => exact ⟨_, _, _, rfl, .sp (o := 0) u a b e f trivial⟩
 | sl0 hz => exact absurd rfl hne

theorem Nz {s : TypeId} {x a : A} {u : Value} {f : Nat} (hx : Rel k x u) (h : Eo P s x f = some a) : ∃ v, (Instr.fieldAt s u f).run P k.w = .ok v k.w ∧ Rel k a v := by
 unfold Eo at h
 split at h
 ·rename_i fs hu
  split at h
  ·rename_i fd hf
   split at h
   ·rename_i n hn
    split at h
    ·cases h
    ·rename_i hn0
     have hp : ∀ c i, (fieldPlace ⟨c, i, none⟩ fd).run P k.w = .ok ⟨c, i + fd.offset, none⟩ k.w := fun c i => by
      simp [fieldPlace, Ah hn, hn0, A6]
     split at h
     ·cases h
      cases hx with
      | ptr hb => exact ⟨_, by simp [Instr.fieldAt, run_underlying hu, hf, Instr.sureAddr, hp], .ptr hb⟩
     ·cases h
      obtain ⟨c, x, rfl⟩ := hx.spInv
      exact ⟨_, by simp [Instr.fieldAt, run_underlying hu, hf, Instr.sureAddr, hp], hx.spShift fd.offset⟩
     ·cases h
   ·cases h
  ·cases h
 ·cases h

theorem rel_v_inv {x u : Value} (h : Rel k (.v x) u) : u = x := by cases h; rfl
theorem Je {t : TypeId} {x i a : A} {u iv : Value} (hx : Rel k x u) (hi : Rel k i iv) (h : B1 P t x i = some a) : ∃ v, (Instr.indexAt t u iv).run P k.w = .ok v k.w ∧ Rel k a v := by
 unfold B1 at h
 split at h
 ·rename_i kd n e hu
  rw [rel_v_inv hi]
  split at h
  ·rename_i sz hs
   split at h
   ·split at h
    ·rename_i hc
     obtain ⟨hsz', hz, h0, h1⟩ := hc
     subst hsz'
     cases h
     obtain ⟨c, i, cap, rfl, hx'⟩ := hx.slInv' (fun e => by rw [e] at h1; simp at h1; omega)
     refine ⟨_, ?_, by simpa using hx'.spShift (n.toNat * _)⟩
     simp only [Instr.indexAt, asIntOf, Sem.run_bind, Sem.run_pure, run_underlying hu, Result.andThen_ok]
     rw [if_pos ⟨h0, h1⟩]
     simp [Ah hs, A6]
    ·cases h
   ·split at h
    ·rename_i hc
     obtain ⟨h0, h1⟩ := hc
     cases h
     obtain ⟨c, cap', rfl, hb, _, _⟩ := hx.msInv
     ·refine ⟨_, ?_, .ptr hb⟩
      simp [Instr.indexAt, asIntOf, run_underlying hu, Ah hs, h0, h1, A6]
    ·cases h
   ·cases h
  ·cases h
 ·rename_i kd n len e hu
  rw [rel_v_inv hi]
  split at h
  ·rename_i sz hs
   split at h
   ·rename_i hc
    obtain ⟨h0, h1⟩ := hc
    split at h
    ·cases h
     cases hx with
     | ptr hb =>
      refine ⟨_, ?_, .ptr hb⟩
      simp [Instr.indexAt, Instr.sureAddr, asIntOf, run_underlying hu, Ah hs, h0, h1, A6]
    ·cases h
     obtain ⟨c, y, rfl⟩ := hx.spInv
     refine ⟨_, ?_, hx.spShift (n.toNat * sz)⟩
     simp [Instr.indexAt, Instr.sureAddr, asIntOf, run_underlying hu, Ah hs, h0, h1, A6]
    ·cases h
   ·cases h
  ·cases h
 ·cases h

theorem K4 {t : TypeId} {cs : List A} {us : List Value} {off : Nat} {a : A} (hr : RelL k cs us) (h : Pa P t cs off = some a) : ∃ v, (part t us.toArray off).run P k.w = .ok v k.w ∧ Rel k a v := by
 unfold Pa at h
 split at h
 ·rename_i i ha hi
  split at h
  ·rename_i hb
   cases h
   refine ⟨.agg ((us.drop off).take i.size).toArray, ?_, D0 ((hr.drop off).take i.size)⟩
   simp [part, Fv ha, Ba hi, List.extract_eq_take_drop]
  ·cases h
 ·rename_i ha
  obtain ⟨u, h1, h2⟩ := hr.get h
  exact ⟨u, by simp [part, Fv ha, h1], h2⟩
 ·cases h
theorem Mf {t : TypeId} {x a : A} {u : Value} {f : Nat} (hx : Rel k x u) (h : Id P t x f = some a) : ∃ v, (Instr.field t u f).run P k.w = .ok v k.w ∧ Rel k a v := by
 unfold Id at h
 split at h
 ·rename_i fs cs hu
  split at h
  ·rename_i fd hf
   cases hx with
   | agg h1 h2 =>
    obtain ⟨v, g1, g2⟩ := K4 (P := P) (k := k) ⟨h1, h2⟩ h
    exact ⟨v, by simp [Instr.field, run_underlying hu, hf, asAgg, g1], g2⟩
  ·cases h
 ·cases h
theorem Mg {t : TypeId} {x i a : A} {u iv : Value} (hx : Rel k x u) (hi : Rel k i iv) (h : Ie P t x i = some a) : ∃ v, (Instr.index t u iv).run P k.w = .ok v k.w ∧ Rel k a v := by
 unfold Ie at h
 split at h
 ·rename_i kd n len e cs hu
  rw [rel_v_inv hi]
  split at h
  ·rename_i sz hs
   split at h
   ·rename_i hc
    obtain ⟨h0, h1⟩ := hc
    cases hx with
    | agg g1 g2 =>
     obtain ⟨v, g3, g4⟩ := K4 (P := P) (k := k) ⟨g1, g2⟩ h
     exact ⟨v, by simp [Instr.index, asIntOf, run_underlying hu, Ah hs, h0, h1, g3], g4⟩
   ·cases h
  ·cases h
 ·cases h

theorem Inv.storeRow (hI : Inv w0 σ k) {b c o : Nat} {cs xs : List A} {vs : List Value} {e : TypeId} (hc : σ.cells b = some (cs, e)) (hb : k.blk b = some c) (hx : RelL k xs vs) (ho : o + xs.length ≤ cs.length) :
  ∃ (us : List Value) (e' : TypeId), k.w.heap[c]? = some (.cells us.toArray e' (0, 0)) ∧ cs.length ≤ us.length ∧ w0.heap.size ≤ c ∧
   Inv w0 (σ.put b (.cells (splice cs o xs) e)) (k.wd (k.w.setRow c (us.take o ++ vs ++ us.drop (o + vs.length)).toArray)) ∧ k.le (k.wd (k.w.setRow c (us.take o ++ vs ++ us.drop (o + vs.length)).toArray)) := by
 obtain ⟨_, hg, us, ws, e', h4, h5, h6, h7⟩ := hI.cellsAt hc hb
 have hl := hx.1
 have hl2 := h5.1
 have e1 : (us ++ ws).take o = us.take o := List.take_append_of_le_length (by omega)
 have e2 : (us ++ ws).drop (o + vs.length) = us.drop (o + vs.length) ++ ws := List.drop_append_of_le_length (by omega)
 refine ⟨us ++ ws, e', h4, by rw [List.length_append]; omega, h6, ?_⟩
 rw [e1, e2, ← List.append_assoc]
 have hsp := RelL.splice h5 hx o
 refine hI.setRow hg hb h4 ⟨_, ws, e', rfl, h7, hsp⟩ ?_
 simp only [List.length_append, List.length_take, List.length_drop]
 omega
theorem N0 (hI : Inv w0 σ k) {t : TypeId} {a x : A} {u v : Value} (ha : Rel k a u) (hx : Rel k x v) (h : Fp P t a x σ = some σ') :
  ∃ k', (Instr.storeAt t u v).run P k.w = .ok () k'.w ∧ Inv w0 σ' k' ∧ k.le k' := by
 unfold Fp at h
 split at h
 ·rename_i b o
  split at h
  ·rename_i cs e n hc hn
   split at h
   ·rename_i hq
    obtain ⟨h1, h2, h3⟩ := hq
    cases h
    cases ha with
    | ptr hb =>
     rename_i c
     have hxc := hx.cells (Cj h2)
     have hlen : v.cells.toList.length = n := by rw [← hxc.1, h1]
     obtain ⟨us, e', h4, h5, _, g1, g2⟩ := hI.storeRow hc hb hxc (by rw [h1]; exact h3)
     have hrun := Cz P c e' 0 0 v.cells.toList o 0 us k.w h4 (by rw [hlen]; omega) (Cy hxc h2) (.inl rfl)
     refine ⟨_, ?_, g1, g2⟩
     simp only [Nat.add_zero] at hrun
     have hsz : v.cells.size = n := by simpa using hlen
     simp [Instr.storeAt, Instr.sureAddr, storeVar, Ah hn, hsz, hrun, K.wd]
   ·cases h
  ·cases h
 ·cases h

theorem Ei {a : A} {n : Nat} (h : Ic a = some n) : ∃ kd i, a = .v (.int kd i) ∧ 0 ≤ i ∧ i.toNat = n := by
 unfold Ic at h
 split at h
 ·rename_i kd i
  split at h
  ·rename_i h0; cases h; exact ⟨kd, i, rfl, h0, rfl⟩
  ·cases h
 ·cases h

def Jf (k : K) : Option A → Option Value → Prop
 | none, none => True
 | some a, some u => Rel k a u
 | _, _ => False

theorem G9 {w : World} {kd : IntKind} {i : Int} {y : Nat} {code : BoundsCode} (h0 : 0 ≤ i) (h1 : i.toNat ≤ y) : (Instr.sliceBound (.int kd i) y code).run P w = .ok i.toNat w := by
 have : i ≤ (y : Int) := by omega
 simp [Instr.sliceBound, asIntOf, h0, this]

theorem Ck {w : World} {n cap : Nat} {lo hi : Option A} {lv hv : Option Value} {l h : Nat} {isS : Bool} (hl : Jf k lo lv) (hh : Jf k hi hv) (hn : n ≤ cap) (hb : I9 n lo hi = some (l, h)) :
  (Instr.sliceBounds isS n cap lv hv none).run P w = .ok (l, h, cap) w ∧ l ≤ h ∧ h ≤ n := by
 have step : ∀ (x : Option A) (xv : Option Value) (d y : Nat), Jf k x xv → (match x with | none => some d | some a => Ic a) = some y → (xv = none ∧ y = d) ∨ ∃ kd i, xv = some (.int kd i) ∧ 0 ≤ i ∧ i.toNat = y := by
  intro x xv d y hx hm
  cases x with
  | none => cases xv with
   | none => simp at hm; exact .inl ⟨rfl, hm.symm⟩
   | some _ => exact absurd hx id
  | some a => cases xv with
   | none => exact absurd hx id
   | some v =>
    simp only at hm
    obtain ⟨kd, i, rfl, h0, h1⟩ := Ei hm
    obtain rfl := rel_v_inv hx
    exact .inr ⟨kd, i, rfl, h0, h1⟩
 unfold I9 at hb
 split at hb
 ·cases hb
 ·rename_i h' hhv
  split at hb
  ·rename_i hle
   split at hb
   ·cases hb
   ·rename_i l' hlv
    split at hb
    ·rename_i hlh
     cases hb
     refine ⟨?_, hlh, hle⟩
     rcases step lo lv 0 l hl hlv with ⟨rfl, rfl⟩ | ⟨kd, i, rfl, h0, h1⟩ <;> rcases step hi hv n h hh hhv with ⟨rfl, e2⟩ | ⟨kd', i', rfl, h0', h1'⟩
     ·subst e2; simp [Instr.sliceBounds]
     ·subst h1'; simp [Instr.sliceBounds, G9 h0' (show i'.toNat ≤ cap by omega)]
     ·subst e2; subst h1; simp [Instr.sliceBounds, G9 h0 hlh]
     ·subst h1'; subst h1; simp [Instr.sliceBounds, G9 h0' (show i'.toNat ≤ cap by omega), G9 h0 hlh]
    ·cases hb
  ·cases hb

theorem Mh {m sz x : Nat} (h : m = m / sz * sz) (hx : x ≤ m / sz) : x * sz ≤ m := by
 rw [h]; exact Nat.mul_le_mul_right _ hx

theorem N1 (hI : Inv w0 σ k) {t : TypeId} {x a : A} {u : Value} {lo hi : Option A} {lv hv : Option Value} (hx : Rel k x u) (hl : Jf k lo lv) (hh : Jf k hi hv) (h : Dw P t x lo hi σ = some (a, σ')) :
  ∃ k' v, (Instr.sliceAt t u lv hv none).run P k.w = .ok v k'.w ∧ Rel k' a v ∧ Inv w0 σ' k' ∧ k.le k' := by
 unfold Dw at h
 split at h
 ·rename_i e sz cs ap hu
  split at h
  ·rename_i hsz
   obtain ⟨hs, hz⟩ := hsz
   split at h
   ·rename_i l h' hb
    cases h
    cases hx with
    | @sl _ _ _ c i n cap f h1 h2 h3 h4 h5 h6 h7 h8 =>
     obtain ⟨g1, g2, g3⟩ := Ck (P := P) (w := k.w) (isS := true) hl hh h7 hb
     have hm := Mh h6 g3
     have hlm : l * sz ≤ h' * sz := Nat.mul_le_mul_right _ g2
     have hlen : ((cs.drop (l * sz)).take ((h' - l) * sz)).length = (h' - l) * sz := by
      rw [List.length_take, List.length_drop, Nat.sub_mul]; omega
     have hdiv : ((cs.drop (l * sz)).take ((h' - l) * sz)).length / sz = h' - l := by rw [hlen, Nat.mul_div_cancel _ hz]
     have hrun : (Instr.sliceAt t (.slice (some ⟨c, i, none⟩) (cs.length / sz) cap) lv hv none).run P k.w = .ok (.slice (if cap = l then some ⟨c, i, none⟩ else some ⟨c, i + l * sz, none⟩) (h' - l) (cap - l)) k.w := by
      simp only [Instr.sliceAt, Sem.run_bind, run_underlying hu, Result.andThen_ok, Instr.slice]
      rw [g1]
      simp [Ah hs, A6]
     have hsub : ∀ (j : Nat) (a : A), ((cs.drop (l * sz)).take ((h' - l) * sz))[j]? = some a → cs[l * sz + j]? = some a := by
      intro j a ha
      rw [List.getElem?_take] at ha
      split at ha
      ·rwa [List.getElem?_drop] at ha
      ·cases ha
     by_cases hcl : cap = l
     ·have e0 : h' - l = 0 := by omega
      have hnil : (cs.drop (l * sz)).take ((h' - l) * sz) = [] := by rw [e0]; simp
      rw [if_pos hcl] at hrun
      refine ⟨k, _, hrun, ?_, hI, K.le.refl k⟩
      rw [hnil]
      have hc0 : cap - l = 0 := by omega
      rw [e0, hc0]
      have h00 : ([] : List A).length / sz = 0 := by simp
      rw [← h00]
      refine .sl (fun _ => undef) h1 (by simp; omega) (fun j a ha => by simp at ha) (fun j a ha => by simp at ha) hz (by simp) (by simp) ?_
      split
      ·cases ap with
       | no => trivial
       | ex => exact ⟨by simp, h8.2⟩
       | gr id => exact ⟨h8.1, fun _ => .inl (by simp)⟩
      ·trivial
     ·rw [if_neg hcl] at hrun
      refine ⟨k, _, hrun, ?_, hI, K.le.refl k⟩
      rw [show (h' - l : Nat) = ((cs.drop (l * sz)).take ((h' - l) * sz)).length / sz from hdiv.symm]
      rw [hdiv]
      have key : Rel k (.sl sz ((cs.drop (l * sz)).take ((h' - l) * sz)) (if h' = cs.length / sz then ap else .no)) (.slice (some ⟨c, i + l * sz, none⟩) (((cs.drop (l * sz)).take ((h' - l) * sz)).length / sz) (cap - l)) := by
       refine .sl (fun j => f (l * sz + j)) h1 (by rw [hlen, Nat.sub_mul]; omega) (fun j a ha => ?_) (fun j a ha => h4 _ a (hsub j a ha)) hz (by rw [hdiv]; exact hlen) (by rw [hdiv]; omega) ?_
       ·rw [Nat.add_assoc]; exact h3 _ a (hsub j a ha)
       ·split
        ·rename_i hfull
         cases ap with
         | no => trivial
         | ex => exact ⟨by rw [hdiv, h8.1]; omega, h8.2⟩
         | gr id =>
          refine ⟨h8.1, fun hlv => (h8.2 hlv).imp (fun e => by rw [hdiv]; omega) ?_⟩
          rintro ⟨e1, cs1, e', fr, e2, e3⟩
          refine ⟨?_, cs1, e', fr, e2, ?_⟩
          ·rw [e1, hlen, Nat.sub_mul, hfull, ← h6]; congr 1; rw [hfull, ← h6] at hlm; omega
          ·rw [e3, Nat.sub_mul]
           have : l * sz ≤ cap * sz := Nat.mul_le_mul_right _ (by omega)
           omega
        ·trivial
      rw [hdiv] at key
      exact key
    | @sl0 _ cap ad hz0 =>
     obtain ⟨g1, g2, g3⟩ := Ck (P := P) (w := k.w) (isS := true) (n := ([] : List A).length / sz) (cap := cap) hl hh (by simp) hb
     have z0 : ([] : List A).length / sz = 0 := by simp
     rw [z0] at g1 g3
     obtain rfl : h' = 0 := by omega
     obtain rfl : l = 0 := by omega
     refine ⟨k, .slice (some (if cap = 0 then ad else ad.add 0)) 0 cap, ?_, by simpa using Rel.sl0 hz, hI, K.le.refl k⟩
     simp only [Instr.sliceAt, Sem.run_bind, run_underlying hu, Result.andThen_ok, Instr.slice]
     rw [g1]
     by_cases hc : cap = 0
     ·simp [Ah hs, hc]
     ·simp [Ah hs, hc]
   ·cases h
  ·cases h
 ·rename_i e b o len cap hu
  split at h
  ·rename_i sz l h' hs hb
   split at h
   ·rename_i hcx
    split at h
    case isFalse => cases h
    rename_i hq
    obtain ⟨hz, hsz, hlt⟩ := hq
    cases h
    obtain ⟨c, cap', rfl, hbk, hlc, ⟨hlt2, _⟩ | ⟨sz0, arr, e0, fr0, he0, hh0, hs0⟩⟩ := hx.msInv
    ·omega
    obtain rfl : sz = sz0 := by omega
    obtain ⟨g1, g2, g3⟩ := Ck (P := P) (w := k.w) (isS := true) hl hh hlc hb
    refine ⟨k, .slice (some ⟨c, o + l * sz, none⟩) (h' - l) (cap' - l), ?_, ?_, hI, K.le.refl k⟩
    ·simp only [Instr.sliceAt, Sem.run_bind, run_underlying hu, Result.andThen_ok, Instr.slice]
     rw [g1]
     simp [Ah hs, A6, show cap' ≠ l by omega]
    ·rw [hsz]
     refine .mv hbk (by omega) hh0 ?_
     rw [← hs0, Nat.sub_mul, Nat.add_assoc, Nat.add_sub_cancel' (Nat.mul_le_mul_right _ (by omega))]
   rename_i hcx
   split at h
   ·rename_i hq
    obtain ⟨hz, rfl, rfl, rfl⟩ := hq
    split at h
    ·rename_i cs e' hc
     split at h
     ·rename_i hq
      obtain ⟨rfl, hex, hlen⟩ := hq
      cases h
      cases hx with
      | mv _ _ _ _ => exact absurd (Nat.le_add_right _ _) hcx
      | ms hbk hlc hlx =>
       rename_i c
       obtain ⟨g1, _, _⟩ := Ck (P := P) (w := k.w) (isS := true) hl hh hlc hb
       obtain ⟨_, hg, us, h4, h5, _⟩ := hI.cellsEx hc hbk hex
       obtain ⟨i1, i2⟩ := hI.seal_ hg hbk hex
       refine ⟨_, .slice (some ⟨c, 0, none⟩) 0 cap, ?_, ?_, i1, i2⟩
       ·simp only [Instr.sliceAt, Sem.run_bind, run_underlying hu, Result.andThen_ok, Instr.slice]
        rw [g1]
        simp [Ah hs, A6, K.seal_]
       ·have h00 : ([] : List A).length / sz = 0 := by simp
        have : Rel (k.seal_ c σ.nextT) (.sl sz [] (.gr σ.nextT)) (.slice (some ⟨c, 0, none⟩) (([] : List A).length / sz) cap) := by
         refine .sl (n := 0) (fun _ => undef) (by simp [K.seal_]) (by simp) (fun j a ha => by simp at ha) (fun j a ha => by simp at ha) hz (by simp) (by simp) ⟨by simp [K.seal_], fun _ => .inr ⟨by simp [K.seal_], us.toArray, e', (0, 0), h4, ?_⟩⟩
         simp [← h5.1, hlen]
        rw [h00] at this
        exact this
     ·cases h
    ·cases h
   ·split at h
    ·rename_i hq
     obtain ⟨hz, hlt⟩ := hq
     cases h
     cases hx with
     | mv _ _ _ _ => exact absurd (Nat.le_add_right _ _) hcx
     | ms hbk hlc hlx =>
      rename_i c
      obtain ⟨g1, g2, g3⟩ := Ck (P := P) (w := k.w) (isS := true) hl hh hlc hb
      refine ⟨k, .slice (some ⟨c, o + l * sz, none⟩) (h' - l) (cap - l), ?_, .ms hbk (by omega) (by omega), hI, K.le.refl k⟩
      simp only [Instr.sliceAt, Sem.run_bind, run_underlying hu, Result.andThen_ok, Instr.slice]
      rw [g1]
      simp [Ah hs, A6, show cap ≠ l by omega]
    ·cases h
  ·cases h
 ·rename_i e id len hu
  split at h
  ·rename_i hs hb
   cases h
   cases hx with
   | raw h1 h2 h3 h4 =>
    rename_i c cap
    obtain ⟨g1, _, _⟩ := Ck (P := P) (w := k.w) (isS := true) hl hh h2 hb
    obtain ⟨m, hm⟩ := h4
    refine ⟨k, .slice (some ⟨c, 0, none⟩) 0 cap, ?_, ?_, hI, K.le.refl k⟩
    ·simp only [Instr.sliceAt, Sem.run_bind, run_underlying hu, Result.andThen_ok, Instr.slice]
     rw [g1]
     simp [Ah hs, A6]
    ·refine .sl (sz := 1) (cs := []) (fun _ => undef) hm (by simp) (fun j a ha => by simp at ha) (fun j a ha => by simp at ha) (by omega) (by simp) (by simp) ⟨h1, fun hlv => .inr ?_⟩
     obtain ⟨q1, cs, e', fr, q2, q3⟩ := h3 hlv
     exact ⟨by simpa using q1, cs, e', fr, q2, by simpa using q3⟩
  ·cases h
 ·rename_i n e b o hu
  split at h
  ·rename_i sz l h' hs hb
   split at h
   ·rename_i hq
    obtain ⟨hz, hnx, hlt⟩ := hq
    cases h
    cases hx with
    | ptr hbk =>
     rename_i c
     obtain ⟨g1, g2, g3⟩ := Ck (P := P) (w := k.w) (isS := false) hl hh (Nat.le_refl n) hb
     refine ⟨k, .slice (some ⟨c, o + l * sz, none⟩) (h' - l) (n - l), ?_, .ms hbk (by omega) (by omega), hI, K.le.refl k⟩
     simp only [Instr.sliceAt, Instr.sureAddr, Sem.run_bind, run_underlying hu, Result.andThen_ok, Sem.run_pure]
     rw [g1]
     simp [Ah hs, A6, show n ≠ l by omega]
   ·cases h
  ·cases h
 ·cases h
end
end Go.DM
namespace Go.DM
open Go Go.RowKit

theorem Mr (newLen : Nat) : ∀ (r c : Nat), c ≤ 2 * newLen + 1024 → Builtin.growBy newLen r c ≤ 2 * newLen + 1024
 | 0, c, h => h
 | r + 1, c, h => by
  unfold Builtin.growBy
  split
  ·exact h
  ·exact Mr newLen r _ (by omega)
theorem Gh {need cap : Nat} (h : cap < need) : Builtin.nextslicecap need cap ≤ 2 * need + 1024 := by
 unfold Builtin.nextslicecap
 split
 ·omega
 ·split
  ·omega
  ·exact Mr _ _ _ (by omega)

section
variable {P : Program} {w0 : World} {σ σ' : St} {k : K}

theorem Es (s : ByteArray) : RelL k (C6 s) (s.data.toList.map fun b => .int .u8 b.toNat) := by
 refine ⟨by simp [C6], fun j a u ha hu => ?_⟩
 simp only [C6, List.getElem?_map, Option.map_eq_some_iff] at ha hu
 obtain ⟨b, h1, rfl⟩ := ha
 obtain ⟨b', h2, rfl⟩ := hu
 rw [h1] at h2; cases h2
 exact D1

theorem A4 (hI : Inv w0 σ k) {sz : Nat} (hz : 0 < sz) {x : A} {u : Value} {new : List A} (hx : Rel k x u) (h : Ai σ sz x = some new) :
  ∃ (n : Nat) (us : List Value), (∀ w, (Builtin.lenOf u).run P w = .ok n w) ∧ (Builtin.firstCells sz n u).run P k.w = .ok us.toArray k.w ∧ RelL k new us ∧ new.length = n * sz := by
 unfold Ai at h
 split at h
 ·cases h
  obtain rfl := rel_v_inv hx
  exact ⟨0, [], fun w => rfl, rfl, RelL.nil k, by simp⟩
 ·rename_i s
  split at h
  ·rename_i hs
   cases h
   obtain rfl := rel_v_inv hx
   refine ⟨s.size, s.data.toList.map fun b => .int .u8 b.toNat, fun w => rfl, ?_, Es s, by simp [C6, hs]⟩
   simp only [Builtin.firstCells, Sem.run_pure]
   congr 1
   have : s.extract 0 s.size = s := ByteArray.extract_zero_size
   rw [this]
   apply Array.ext'
   simp
  ·cases h
 ·rename_i sz' cs ap
  split at h
  ·rename_i hs
   subst hs
   cases h
   cases hx with
   | @sl _ _ _ c i n cap f h1 h2 h3 h4 h5 h6 h7 h8 =>
    obtain ⟨us, g1, g2⟩ := CellsAt.load (P := P) (k := k) (c := c) (i := i) (cs := new) (fun j a ha => ⟨_, h3 j a ha, h4 j a ha⟩)
    refine ⟨new.length / sz', us, fun w => rfl, ?_, g1, h6⟩
    simp only [Builtin.firstCells]
    rw [← h6]; exact g2
   | sl0 h5 => exact ⟨0, [], fun w => rfl, by simp only [Builtin.firstCells, Nat.zero_mul, loadCells, loadCellsFrom]; rfl, RelL.nil k, by simp⟩
  ·cases h
 ·rename_i b o len cap
  split at h
  ·rename_i cs e hc
   split at h
   ·rename_i hle
    cases h
    obtain ⟨c, cap', rfl, hb, _, _⟩ := hx.msInv
    ·obtain ⟨g, _⟩ := hI.cellsAt hc hb
     obtain ⟨us, g1, g2⟩ := (g.sub o (len * sz)).load (P := P)
     have hlen : ((cs.drop o).take (len * sz)).length = len * sz := by rw [List.length_take, List.length_drop]; omega
     refine ⟨len, us, fun w => rfl, ?_, g1, hlen⟩
     simp only [Builtin.firstCells]
     rw [hlen, Nat.zero_add] at g2; exact g2
   ·cases h
  ·cases h
 ·cases h

theorem Rel.slFull {sz : Nat} {cs : List A} {ap : Ap} {a : Option Addr} {len cap : Nat} (h : Rel k (.sl sz cs ap) (.slice a len cap)) (hne : cs ≠ [] ∨ ap ≠ .no) : ∃ (c i n : Nat) (f : Nat → Value), a = some ⟨c, i, none⟩ ∧ len = cs.length / sz ∧ k.frz c = some n ∧ i + cs.length ≤ n ∧
  (∀ (j : Nat) (a : A), cs[j]? = some a → k.w.cell? ⟨c, i + j, none⟩ = some (f j)) ∧ (∀ (j : Nat) (a : A), cs[j]? = some a → Rel k a (f j)) ∧ 0 < sz ∧ cs.length = len * sz ∧ len ≤ cap ∧ ApRel k c i cs.length sz cap ap := by
 cases h with
 | sl f q1 q2 q3 q4 q5 q6 q7 q8 => exact ⟨_, _, _, f, rfl, rfl, q1, q2, q3, q4, q5, q6, q7, q8⟩
 | sl0 hz => rcases hne with hne | hne <;> exact absurd rfl hne

theorem Dc (hI : Inv w0 σ k) {ats : Array TypeId} {ty t t' e : TypeId} {d' : TypeDesc} {i : TypeInfo} {z : Value} {sv xv : Value} {s x : A} {old new : List A} {sLen sCap : Nat} {base : Option Addr} (h0 : ats[0]? = some t) (h1 : ats[1]? = some t')
  (hu : P.underlying t = some (.slice e)) (hu' : P.underlying t' = some d') (hd' : ∀ kd, d' ≠ .int kd) (hi : P.info? e = some i) (hz : i.zero = some z) (hzs : z.cells.size = i.size) (hsz : 0 < i.size) (hby : 0 < i.bytes)
  (hsv : sv = .slice base sLen sCap) (ho : Ai σ i.size s = some old) (hs : Rel k s sv) (hol : old.length = sLen * i.size) (hn : Ai σ i.size x = some new) (hx : Rel k x xv) (hbig : sCap < sLen + new.length / i.size)
  (hroom : (2 * (sLen + new.length / i.size) + 1024) * i.bytes ≤ 281474976710656) :
  ∃ (n cap : Nat) (us us' : List Value), new.length / i.size = n ∧ new.length = n * i.size ∧ RelL (k.wd k.w.drew) new us ∧ RelL (k.wd k.w.drew) old us' ∧ sLen + n ≤ cap ∧ (us' ++ us).length = (sLen + n) * i.size ∧
   (us'.toArray ++ us.toArray ++ Builtin.zeroCells z.cells (cap - (sLen + n))).size = cap * i.size ∧
   (Builtin.append_ ats ty #[sv, xv]).run P k.w = .ok (.slice (some ⟨k.w.heap.size, 0, none⟩) (sLen + n) cap) ((k.w.drew).alloc (.cells (us'.toArray ++ us.toArray ++ Builtin.zeroCells z.cells (cap - (sLen + n))) e)) := by
 obtain ⟨hI1, hle1⟩ := hI.drew
 obtain ⟨n, us, l1, f1, r1, e1⟩ := A4 (P := P) hI1 hsz (hx.mono hle1) hn
 obtain ⟨n', us', l1', f1', r1', e1'⟩ := A4 (P := P) hI1 hsz (hs.mono hle1) ho
 have hnn : new.length / i.size = n := by rw [e1, Nat.mul_div_cancel _ hsz]
 have hn' : n' = sLen := by
  have := l1' k.w
  rw [hsv] at this
  simp [Builtin.lenOf] at this
  exact this.symm
 subst hn'
 rw [hnn] at hbig hroom
 have hcap : Builtin.nextslicecap (n' + n) sCap * i.bytes ≤ 281474976710656 := Nat.le_trans (Nat.mul_le_mul_right _ (Gh hbig)) hroom
 obtain ⟨cap, hcut, hcapge⟩ : ∃ cap, (Question.appendCap (n' + n) sCap e).cut (k.w.tape k.w.drawn (Question.appendCap (n' + n) sCap e)) = cap ∧ n' + n ≤ cap := ⟨_, rfl, by simp [Question.cut]⟩
 have hlen : (us' ++ us).length = (n' + n) * i.size := by
  rw [List.length_append, ← r1'.1, ← r1.1, e1', e1, Nat.add_mul]
 have hrun : (Builtin.append_ ats ty #[sv, xv]).run P k.w = .ok (.slice (some ⟨k.w.heap.size, 0, none⟩) (n' + n) cap) ((k.w.drew).alloc (.cells (us'.toArray ++ us.toArray ++ Builtin.zeroCells z.cells (cap - (n' + n))) e)) := by
  have f2 : (Builtin.firstCells i.size n' sv).run P k.w.drew = .ok us'.toArray k.w.drew := f1'
  have f3 : (Builtin.firstCells i.size n xv).run P k.w.drew = .ok us.toArray k.w.drew := f1
  subst hsv
  have hm : (match d' with | .int _ => true | _ => false) = false := by
   cases d' <;> first | rfl | exact absurd rfl (hd' _)
  have hz1 : ¬ ((n' + n : Nat) : Int) > IntKind.i64.max ∨ ¬ i.bytes = 0 := .inr (by omega)
  have hb0 : ¬ i.bytes = 0 := by omega
  have hc1 : ¬ (Builtin.nextslicecap (n' + n) sCap * i.bytes > 2 ^ 48) := by
   have : (2 : Nat) ^ 48 = 281474976710656 := by decide
   omega
  have hq : (Question.appendCap (n' + n) sCap e).forced = false := rfl
  simp only [Builtin.append_, h0, h1, List.getElem?_toArray, List.getElem?_cons_zero, List.getElem?_cons_succ, Sem.run_bind, run_underlying hu, run_underlying hu', Result.andThen_ok, Ba hi, Sem.run_pure]
  simp only [Bool.false_eq_true, if_false, Sem.run_bind, l1, Result.andThen_ok, Sem.run_ite]
  rw [if_neg (by omega)]
  simp only [Bu hi, Result.andThen_ok, hb0, or_self, and_false, if_false]
  rw [if_neg hc1]
  simp only [Sem.run_bind, Result.andThen_ok, run_choose, hq, Bool.false_eq_true, if_false, hcut, run_askRoom, World.drew_eq, f2, f3, Bool.not_false, if_true, Am hi hz, newRow, run_newObj, Sem.run_pure, World.alloc_eq]
  rfl
 have hall : (us'.toArray ++ us.toArray ++ Builtin.zeroCells z.cells (cap - (n' + n))).size = cap * i.size := by
  rw [Array.size_append, Array.size_append, size_zeroCells, hzs, Nat.sub_mul]
  have h2 : us'.length + us.length = (n' + n) * i.size := by rw [← List.length_append]; exact hlen
  have h3 : (n' + n) * i.size ≤ cap * i.size := Nat.mul_le_mul_right _ hcapge
  simp only [List.size_toArray]
  omega
 exact ⟨n, cap, us, us', hnn, e1, r1, r1', hcapge, hlen, hall, hrun⟩

theorem Fy (hI : Inv w0 σ k) {ats : Array TypeId} {ty t t' e : TypeId} {d' : TypeDesc} {i : TypeInfo} {z : Value} {sv xv : Value} {s x : A} {old new : List A} {sLen sCap : Nat} {base : Option Addr} (h0 : ats[0]? = some t) (h1 : ats[1]? = some t')
  (hu : P.underlying t = some (.slice e)) (hu' : P.underlying t' = some d') (hd' : ∀ kd, d' ≠ .int kd) (hi : P.info? e = some i) (hz : i.zero = some z) (hzs : z.cells.size = i.size) (hsz : 0 < i.size) (hby : 0 < i.bytes)
  (hsv : sv = .slice base sLen sCap) (ho : Ai σ i.size s = some old) (hs : Rel k s sv) (hol : old.length = sLen * i.size) (hn : Ai σ i.size x = some new) (hx : Rel k x xv) (hbig : sCap < sLen + new.length / i.size)
  (hroom : (2 * (sLen + new.length / i.size) + 1024) * i.bytes ≤ 281474976710656) :
  ∃ k' v, (Builtin.append_ ats ty #[sv, xv]).run P k.w = .ok v k'.w ∧ Rel k' (.sl i.size (old ++ new) (.gr σ.nextT)) v ∧ Inv w0 (σ.tok e) k' ∧ k.le k' := by
 obtain ⟨n, cap, us, us', hnn, e1, r1, r1', hcapge, hlen, hall, hrun⟩ := Dc (ty := ty) hI h0 h1 hu hu' hd' hi hz hzs hsz hby hsv ho hs hol hn hx hbig hroom
 obtain ⟨hI1, hle1⟩ := hI.drew
 obtain ⟨hI2, hle2⟩ := hI1.layTok (us := us'.toArray ++ us.toArray ++ Builtin.zeroCells z.cells (cap - (sLen + n))) (e := e) (lo := 0) (hi := 0) (n := (old ++ new).length) (by
  rw [hall, List.length_append, hol, e1, ← Nat.add_mul]; exact Nat.mul_le_mul_right _ hcapge) (.inl rfl)
 refine ⟨_, _, hrun, ?_, hI2, hle1.trans hle2⟩
 have hr : RelL _ (old ++ new) (us' ++ us) := (r1'.append r1).mono hle2
 have hml : (old ++ new).length = (sLen + n) * i.size := by rw [hr.1]; exact hlen
 have hdiv : (old ++ new).length / i.size = sLen + n := by rw [hml, Nat.mul_div_cancel _ hsz]
 have hblk : (k.w.drew.alloc (.cells (us'.toArray ++ us.toArray ++ Builtin.zeroCells z.cells (cap - (sLen + n))) e)).heap[k.w.heap.size]? = some (.cells (us'.toArray ++ us.toArray ++ Builtin.zeroCells z.cells (cap - (sLen + n))) e (0, 0)) := Ag k.w.drew _
 suffices key : Rel ((k.wd k.w.drew).layTok (Obj.cells (us'.toArray ++ us.toArray ++ Builtin.zeroCells z.cells (cap - (sLen + n))) e (0, 0)) (old ++ new).length σ.nextT) (.sl i.size (old ++ new) (.gr σ.nextT)) (.slice (some ⟨k.w.heap.size, 0, none⟩) ((old ++ new).length / i.size) cap) by
  rw [hdiv] at key; exact key
 refine .sl (n := (old ++ new).length) (fun j => (us' ++ us).getD j undef) (if_pos rfl) (by omega) (fun j a ha => ?_) (fun j a ha => ?_) hsz (by rw [hdiv]; exact hml) (by rw [hdiv]; exact hcapge) ⟨if_pos rfl, fun _ => .inr ⟨?_, _, _, _, hblk, ?_⟩⟩
 ·have hj : j < (us' ++ us).length := by rw [← hr.1]; exact Be ha
  rw [Nat.zero_add]
  refine (Bl hblk).trans ?_
  rw [← Array.getElem?_toList]
  simp only [Array.toList_append]
  rw [List.getElem?_append_left hj]
  simp [List.getD, List.getElem?_eq_getElem hj]
 ·obtain ⟨u, g1, g2⟩ := hr.get ha
  simp only [List.getD, g1, Option.getD_some]
  exact g2
 ·rw [Nat.zero_add]; exact if_pos rfl
 ·rw [Nat.zero_add]; exact hall

theorem N2 (hI : Inv w0 σ k) {ats : Array TypeId} {ty t t' e : TypeId} {d' : TypeDesc} {i : TypeInfo} {xv : Value} {x : A} {new cs : List A} {id c o len cap : Nat} (h0 : ats[0]? = some t) (h1 : ats[1]? = some t')
  (hu : P.underlying t = some (.slice e)) (hu' : P.underlying t' = some d') (hd' : ∀ kd, d' ≠ .int kd) (hi : P.info? e = some i) (hsz : 0 < i.size) (hone : Bh new = true)
  (hs : Rel k (.sl i.size cs (.gr id)) (.slice (some ⟨c, o, none⟩) len cap)) (hn : Ai σ i.size x = some new) (hx : Rel k x xv) (hfit : len + new.length / i.size ≤ cap) (hlt : len < cap) (ht : σ.toks.get id = some e) :
  ∃ k' v, (Builtin.append_ ats ty #[.slice (some ⟨c, o, none⟩) len cap, xv]).run P k.w = .ok v k'.w ∧ Rel k' (.sl i.size (cs ++ new) (.gr σ.nextT)) v ∧ Inv w0 ((σ.untok id).tok e) k' ∧ k.le k' := by
 obtain ⟨n, us, l1, f1, r1, e1⟩ := A4 (P := P) hI hsz hx hn
 have hnn : new.length / i.size = n := by rw [e1, Nat.mul_div_cancel _ hsz]
 rw [hnn] at hfit
 obtain ⟨hl, c', fz, csv, lo, hi', g1, g2, g3, g4, g5⟩ := hI.tok id e ht
 obtain ⟨c0, i0, m, f, q0, hlen, q1, q2, q3, q4, q5, q6, q7, q8⟩ := hs.slFull (.inr (by simp))
 cases q0
 ·obtain ⟨p1, p2⟩ := q8
  rw [g1] at p1; cases p1
  rcases p2 hl with p2 | ⟨p2, cs2, e2, fr2, p3, p4⟩
  ·rw [← hlen] at p2; omega
  rw [g3] at p2; cases p2
  rw [g4] at p3; cases p3
  have hm : cs.length = len * i.size := q6
  have hspace : (len + n) * i.size ≤ cap * i.size := Nat.mul_le_mul_right _ hfit
  have hul : us.length = n * i.size := by rw [← r1.1]; exact e1
  rw [Nat.add_mul] at hspace
  have hst := Cz P c e lo hi' us (o + len * i.size) 0 csv.toList k.w (by simpa using g4) (by simp only [Array.length_toList]; omega) (Cy r1 hone) (by rw [hm] at g5; simpa using g5)
  simp only [Nat.add_zero] at hst
  have hmx : (match d' with | .int _ => true | _ => false) = false := by
   cases d' <;> first | rfl | exact absurd rfl (hd' _)
  have hrun : (Builtin.append_ ats ty #[.slice (some ⟨c, o, none⟩) len cap, xv]).run P k.w = .ok (.slice (some ⟨c, o, none⟩) (len + n) cap) (k.w.setRow c (csv.toList.take (o + len * i.size) ++ us ++ csv.toList.drop (o + len * i.size + us.length)).toArray) := by
   simp only [Builtin.append_, h0, h1, List.getElem?_toArray, List.getElem?_cons_zero, List.getElem?_cons_succ, Sem.run_bind, run_underlying hu, run_underlying hu', Result.andThen_ok, Ba hi, Sem.run_pure]
   simp only [Bool.false_eq_true, if_false, Sem.run_bind, l1, Result.andThen_ok, Sem.run_ite]
   rw [if_pos (by omega)]
   simp only [Bool.not_false, if_true, f1, Result.andThen_ok, A6, hst, Sem.run_pure]
  have hsize : (csv.toList.take (o + len * i.size) ++ us ++ csv.toList.drop (o + len * i.size + us.length)).length = csv.size := by
   simp only [List.length_append, List.length_take, List.length_drop, Array.length_toList]; omega
  obtain ⟨hI2, hle2⟩ := hI.grow (n' := o + cs.length + new.length) ht g1 g3 (by omega) g4 g5 g2 (us := (csv.toList.take (o + len * i.size) ++ us ++ csv.toList.drop (o + len * i.size + us.length)).toArray) (by simpa using hsize) (by
   simp only [List.size_toArray, hsize]; rw [e1, p4]; omega) (fun j hj => by
   rw [hm] at hj
   simp only [List.getElem?_toArray]
   rw [List.append_assoc, List.getElem?_append_left (by simp only [List.length_take, Array.length_toList]; omega), List.getElem?_take, if_pos hj]
   simp)
  refine ⟨_, _, hrun, ?_, hI2, hle2⟩
  have hblk : (k.w.setRow c (csv.toList.take (o + len * i.size) ++ us ++ csv.toList.drop (o + len * i.size + us.length)).toArray).heap[c]? = some (.cells (csv.toList.take (o + len * i.size) ++ us ++ csv.toList.drop (o + len * i.size + us.length)).toArray e (lo, hi')) := setRow_heap _ _ _ _ _ _ g4
  have hml : (cs ++ new).length = (len + n) * i.size := by rw [List.length_append, hm, e1, Nat.add_mul]
  have hdiv : (cs ++ new).length / i.size = len + n := by rw [hml, Nat.mul_div_cancel _ hsz]
  have hr2 := r1.mono hle2
  suffices key : Rel (k.grow c (o + cs.length + new.length) id σ.nextT (csv.toList.take (o + len * i.size) ++ us ++ csv.toList.drop (o + len * i.size + us.length)).toArray) (.sl i.size (cs ++ new) (.gr σ.nextT)) (.slice (some ⟨c, o, none⟩) ((cs ++ new).length / i.size) cap) by
   rw [hdiv] at key; exact key
  refine .sl (n := o + cs.length + new.length) (fun j => if j < cs.length then f j else us.getD (j - cs.length) undef) (if_pos rfl) (by rw [List.length_append]; omega) (fun j a ha => ?_) (fun j a ha => ?_) hsz (by rw [hdiv]; exact hml) (by rw [hdiv]; exact hfit) ⟨if_pos rfl, fun _ => .inr ⟨?_, _, _, _, hblk, ?_⟩⟩
  ·refine (Bl hblk).trans ?_
   simp only [List.getElem?_toArray]
   by_cases hj : j < cs.length
   ·rw [List.getElem?_append_left hj] at ha
    simp only [if_pos hj]
    rw [List.append_assoc, List.getElem?_append_left (by simp only [List.length_take, Array.length_toList]; omega), List.getElem?_take, if_pos (by omega), ← q3 j a ha]
    rw [Bl g4]; simp
   ·simp only [if_neg hj]
    have hj2 : j - cs.length < us.length := by have := Be ha; rw [List.length_append] at this; rw [hul]; omega
    have hx1 : (csv.toList.take (o + len * i.size)).length = o + len * i.size := by
     simp only [List.length_take, Array.length_toList]; omega
    rw [List.append_assoc, List.getElem?_append_right (by omega), hx1, List.getElem?_append_left (by omega)]
    simp only [List.getD]
    rw [show o + j - (o + len * i.size) = j - cs.length by omega, List.getElem?_eq_getElem hj2]
    rfl
  ·by_cases hj : j < cs.length
   ·rw [List.getElem?_append_left hj] at ha
    simp only [if_pos hj]
    exact (q4 j a ha).mono hle2
   ·rw [List.getElem?_append_right (by omega)] at ha
    simp only [if_neg hj]
    obtain ⟨u, w1, w2⟩ := hr2.get ha
    simp only [List.getD, w1, Option.getD_some]
    exact w2
  ·show (if c = c then _ else _) = _
   rw [if_pos rfl, List.length_append, Nat.add_assoc]
  ·simp only [List.size_toArray, hsize]; exact p4

theorem J7 (hI : Inv w0 σ k) {ats : Array TypeId} {ty t t' e : TypeId} {d' : TypeDesc} {i : TypeInfo} {sv xv : Value} {s x : A} (h0 : ats[0]? = some t) (h1 : ats[1]? = some t')
  (hu : P.underlying t = some (.slice e)) (hu' : P.underlying t' = some d') (hd' : ∀ kd, d' ≠ .int kd) (hi : P.info? e = some i) (hsz : 0 < i.size) (hn : Ai σ i.size x = some []) (hx : Rel k x xv) (hs : Rel k s sv)
  (hsl : ∃ b l c, sv = .slice b l c ∧ l ≤ c) :
  (Builtin.append_ ats ty #[sv, xv]).run P k.w = .ok sv k.w := by
 obtain ⟨n, us, l1, f1, r1, e1⟩ := A4 (P := P) hI hsz hx hn
 have hn0 : n = 0 := by
  rcases Nat.eq_zero_or_pos n with h | h
  ·exact h
  ·have := Nat.mul_pos h hsz; simp at e1; omega
 subst hn0
 have hus : us = [] := r1.inv_nil
 subst hus
 obtain ⟨b, l, c, rfl, hlc⟩ := hsl
 have hmx : (match d' with | .int _ => true | _ => false) = false := by
  cases d' <;> first | rfl | exact absurd rfl (hd' _)
 simp only [Builtin.append_, h0, h1, List.getElem?_toArray, List.getElem?_cons_zero, List.getElem?_cons_succ, Sem.run_bind, run_underlying hu, run_underlying hu', Result.andThen_ok, Ba hi, Sem.run_pure]
 simp only [Bool.false_eq_true, if_false, Sem.run_bind, l1, Result.andThen_ok, Sem.run_ite]
 rw [if_pos (by omega)]
 simp only [Bool.not_false, if_true, f1, Result.andThen_ok]
 cases b with
 | none => simp
 | some a => simp [storeCells]
end
end Go.DM
namespace Go.DM
open Go Go.RowKit

section
variable {P : Program} {w0 : World} {σ σ' : St} {k : K}

theorem Ho (hI : Inv w0 σ k) {ats : Array TypeId} {ty t t' : TypeId} {d' : TypeDesc} {sv xv : Value} {s x a : A} (h0 : ats[0]? = some t) (h1 : ats[1]? = some t')
  (hu' : P.underlying t' = some d') (hd' : ∀ kd, d' ≠ .int kd) (hs : Rel k s sv) (hx : Rel k x xv) (h : Bp P t s x σ = some (a, σ')) :
  ∃ k' v, (Builtin.append_ ats ty #[sv, xv]).run P k.w = .ok v k'.w ∧ Rel k' a v ∧ Inv w0 σ' k' ∧ k.le k' := by
 unfold Bp at h
 split at h
 case h_2 => cases h
 rename_i e hu
 split at h
 case h_2 => cases h
 rename_i i hi
 split at h
 case h_2 => cases h
 rename_i new hn
 split at h
 case isFalse => cases h
 rename_i hsz
 split at h
 ·rename_i hnil
  subst hnil
  split at h
  ·rename_i hsl
   cases h
   have hshape : ∃ b l c, sv = .slice b l c ∧ l ≤ c := by
    cases hs with
    | v hv =>
     unfold Ty at hsl
     split at hsl
     ·rename_i heq; cases heq; exact ⟨none, 0, 0, rfl, Nat.le_refl _⟩
     ·rename_i heq; cases heq
     ·rename_i heq; cases heq
     ·cases hsl
    | sl u q1 q2 q3 q4 q5 q6 q7 q8 => exact ⟨_, _, _, rfl, q7⟩
    | sl0 hz => exact ⟨_, _, _, rfl, Nat.zero_le _⟩
    | ms hb hl _ => exact ⟨_, _, _, rfl, hl⟩
    | mv hb hl _ _ => exact ⟨_, _, _, rfl, hl⟩
    | _ => simp [Ty] at hsl
   exact ⟨k, sv, J7 hI h0 h1 hu hu' hd' hi hsz hn hx hs hshape, hs, hI, K.le.refl k⟩
  ·cases h
 ·rename_i hne
  split at h
  case isFalse => cases h
  rename_i hc
  obtain ⟨hone, hzs, hzc, hby⟩ := hc
  obtain ⟨z, hz⟩ := Option.isSome_iff_exists.1 hzs
  have hz2 : z.cells.size = i.size := by simpa [hz] using hzc
  obtain ⟨n, us, l1, f1, r1, e1⟩ := A4 (P := P) hI hsz hx hn
  have hnpos : 0 < new.length / i.size := by
   rcases Nat.eq_zero_or_pos n with h' | h'
   ·subst h'; exact absurd (List.eq_nil_of_length_eq_zero (by simpa using e1)) hne
   ·rw [e1, Nat.mul_div_cancel _ hsz]; exact h'
  split at h
  ·split at h
   ·rename_i hroom
    cases h
    obtain rfl := rel_v_inv hs
    obtain ⟨k', v, g1, g2, g3, g4⟩ := Fy (ty := ty) (old := []) hI h0 h1 hu hu' hd' hi hz hz2 hsz hby (base := none) (sLen := 0) (sCap := 0) rfl rfl hs (by simp) hn hx (by omega) (by simpa using hroom)
    exact ⟨k', v, g1, g2, g3, g4⟩
   ·cases h
  ·rename_i sz cs ap
   split at h
   case isFalse => cases h
   rename_i hq
   obtain ⟨rfl, hroom⟩ := hq
   obtain ⟨b, len, cap, rfl⟩ : ∃ b len cap, sv = .slice b len cap := by obtain ⟨c, cap, h⟩ := hs.slInv; exact ⟨_, _, _, h⟩
   have hne : cs ≠ [] ∨ ap ≠ .no := by
    cases ap with
    | no => cases h
    | ex => exact .inr (by simp)
    | gr id => exact .inr (by simp)
   obtain ⟨c, j, m, f, rfl, hlen, q1, q2, q3, q4, q5, q6, q7, q8⟩ := hs.slFull hne
   have hdiv : (cs.length + new.length) / i.size = len + new.length / i.size := by
    rw [q6, e1, ← Nat.add_mul, Nat.mul_div_cancel _ hsz, Nat.mul_div_cancel _ hsz]
   rw [hdiv] at hroom
   have hold : Ai σ i.size (.sl i.size cs ap) = some cs := by simp [Ai]
   split at h
   ·cases h
    have : cap = len := by rw [hlen]; exact q8.1
    obtain ⟨k', v, g1, g2, g3, g4⟩ := Fy (ty := ty) hI h0 h1 hu hu' hd' hi hz hz2 hsz hby rfl hold hs q6 hn hx (by omega) hroom
    exact ⟨k', v, g1, g2, g3, g4⟩
   ·rename_i id
    split at h
    ·rename_i hlv
     cases h
     by_cases hfit : len + new.length / i.size ≤ cap
     ·exact N2 hI h0 h1 hu hu' hd' hi hsz hone hs hn hx hfit (by omega) hlv
     ·obtain ⟨hI1, hle1⟩ := hI.drop id
      have ha : ∀ y, Ai (σ.untok id) i.size y = Ai σ i.size y := fun y => rfl
      obtain ⟨k', v, g1, g2, g3, g4⟩ := Fy (ty := ty) hI1 h0 h1 hu hu' hd' hi hz hz2 hsz hby rfl (by rw [ha]; exact hold) (hs.mono hle1) q6 (by rw [ha]; exact hn) (hx.mono hle1) (by omega) hroom
      exact ⟨k', v, g1, g2, g3, hle1.trans g4⟩
    ·cases h
   ·cases h
  ·rename_i b o len cap
   split at h
   ·rename_i cs e' hc
    split at h
    ·rename_i hq
     obtain ⟨rfl, hcx, hfit, hroom⟩ := hq
     cases h
     cases hs with
     | mv _ _ _ _ => exact absurd hcx (by omega)
     | ms hb hl hlx =>
      rename_i c
      have hold : Ai σ i.size (.ms b o len len) = some ((cs.drop o).take (len * i.size)) := by
       simp only [Ai, hc]; rw [if_pos hfit]
      have hol : ((cs.drop o).take (len * i.size)).length = len * i.size := by rw [List.length_take, List.length_drop]; omega
      obtain ⟨k', v, g1, g2, g3, g4⟩ := Fy (ty := ty) (s := .ms b o len len) hI h0 h1 hu hu' hd' hi hz hz2 hsz hby rfl hold (.ms hb hl hlx) hol hn hx (by omega) hroom
      exact ⟨k', v, g1, g2, g3, g4⟩
    ·cases h
   ·cases h
  ·cases h

theorem N3 (hI : Inv w0 σ k) {ats : Array TypeId} {ty t t' : TypeId} {d' : TypeDesc} {sv xv : Value} {s x a : A} (h0 : ats[0]? = some t) (h1 : ats[1]? = some t')
  (hu' : P.underlying t' = some d') (hd' : ∀ kd, d' ≠ .int kd) (hs : Rel k s sv) (hx : Rel k x xv) (h : Nn P t s x σ = some (a, σ')) :
  ∃ k' v, (Builtin.append_ ats ty #[sv, xv]).run P k.w = .ok v k'.w ∧ Rel k' a v ∧ Inv w0 σ' k' ∧ k.le k' := by
 unfold Nn at h
 split at h
 case h_2 => cases h
 rename_i e hu
 split at h
 case h_2 => cases h
 rename_i i hi
 split at h
 case h_2 => cases h
 rename_i new hn
 split at h
 case isFalse => cases h
 rename_i hsz
 split at h
 ·rename_i hnil
  subst hnil
  split at h
  ·rename_i hsl
   cases h
   have hshape : ∃ b l c, sv = .slice b l c ∧ l ≤ c := by
    cases hs with
    | v hv =>
     unfold Ty at hsl
     split at hsl
     ·rename_i heq; cases heq; exact ⟨none, 0, 0, rfl, Nat.le_refl _⟩
     ·rename_i heq; cases heq
     ·rename_i heq; cases heq
     ·cases hsl
    | sl u q1 q2 q3 q4 q5 q6 q7 q8 => exact ⟨_, _, _, rfl, q7⟩
    | sl0 hz => exact ⟨_, _, _, rfl, Nat.zero_le _⟩
    | ms hb hl _ => exact ⟨_, _, _, rfl, hl⟩
    | mv hb hl _ _ => exact ⟨_, _, _, rfl, hl⟩
    | _ => simp [Ty] at hsl
   exact ⟨k, sv, J7 hI h0 h1 hu hu' hd' hi hsz hn hx hs hshape, hs, hI, K.le.refl k⟩
  ·cases h
 ·rename_i hne
  split at h
  case isFalse => cases h
  rename_i hc
  obtain ⟨hone, hzs, hzc, hby⟩ := hc
  obtain ⟨z, hz⟩ := Option.isSome_iff_exists.1 hzs
  have hz2 : z.cells.size = i.size := by simpa [hz] using hzc
  obtain ⟨n, us, l1, f1, r1, e1⟩ := A4 (P := P) hI hsz hx hn
  have hnn : new.length / i.size = n := by rw [e1, Nat.mul_div_cancel _ hsz]
  have hnpos : 0 < n := by
   rcases Nat.eq_zero_or_pos n with h' | h'
   ·subst h'; exact absurd (List.eq_nil_of_length_eq_zero (by simpa using e1)) hne
   ·exact h'
  have begun : ∀ {base : Option Addr}, sv = .slice base 0 0 → Ai σ i.size s = some [] → (if (2 * (new.length / i.size) + 1024) * i.bytes ≤ 281474976710656 then some (A.ms σ.next 0 (new.length / i.size) (Gl + i.size), σ.push (.cells new (Hw + e))) else none) = some (a, σ') →
    ∃ k' v, (Builtin.append_ ats ty #[sv, xv]).run P k.w = .ok v k'.w ∧ Rel k' a v ∧ Inv w0 σ' k' ∧ k.le k' := by
   intro base hsv hap h
   split at h
   ·rename_i hroom
    cases h
    obtain ⟨n2, cap, us2, us', hnn2, e2, r2, r2', hcapge, hlen, hall, hrun⟩ := Dc (ty := ty) (old := []) hI h0 h1 hu hu' hd' hi hz hz2 hsz hby (base := base) (sLen := 0) (sCap := 0) hsv hap hs (by simp) hn hx (by omega) (by simpa using hroom)
    obtain rfl : us' = [] := r2'.inv_nil
    simp only [Nat.zero_add] at hcapge hall hrun
    obtain ⟨hI1, hle1⟩ := hI.drew
    obtain ⟨q1, q2, q3⟩ := hI1.push (x := .cells new (Hw + e)) (o := .cells (([] : List Value).toArray ++ us2.toArray ++ Builtin.zeroCells z.cells (cap - n2)) e)
     ⟨us2, (Builtin.zeroCells z.cells (cap - n2)).toList, e, by congr 1; apply Array.ext'; simp, fun h => absurd h (Nat.not_lt.2 (Nat.le_add_right _ _)), r2⟩
    refine ⟨_, _, hrun, ?_, q1, hle1.trans q2⟩
    rw [hnn2]
    exact .mv q3 hcapge (Ag k.w.drew _) ((Nat.zero_add _).trans hall.symm)
   ·cases h
  split at h
  ·obtain rfl := rel_v_inv hs
   exact begun rfl rfl h
  ·rename_i sz
   split at h
   case isFalse => cases h
   rename_i hq
   obtain ⟨rfl, hroom⟩ := hq
   obtain ⟨b, len, cap, rfl⟩ : ∃ b len cap, sv = .slice b len cap := by obtain ⟨c, cap, h⟩ := hs.slInv; exact ⟨_, _, _, h⟩
   obtain ⟨c, j, m, f, rfl, hlen, q1, q2, q3, q4, q5, q6, q7, q8⟩ := hs.slFull (.inr (by simp))
   have hl0 : len = 0 := by simpa using hlen
   have hc0 : cap = 0 := by have := q8.1; simpa using this
   subst hl0
   subst hc0
   exact begun rfl (by simp [Ai]) (by rw [if_pos hroom]; exact h)
  ·rename_i b len cap
   split at h
   ·rename_i cs e' hc
    split at h
    ·rename_i hq
     obtain ⟨rfl, rfl, hfit, hroom⟩ := hq
     cases h
     obtain ⟨c, cap', rfl, hb, hlc, ⟨hlt, _⟩ | ⟨sz0, arr, e0, fr0, he0, hh0, hs0⟩⟩ := hs.msInv
     ·omega
     obtain rfl : i.size = sz0 := by omega
     obtain ⟨_, hg, vs, ws, e2, h4, h5, h6, _⟩ := hI.cellsAt hc hb
     rw [h4] at hh0
     obtain rfl : (vs ++ ws).toArray = arr := by injection hh0 with g1; injection g1
     simp only [Nat.zero_add, List.size_toArray] at hs0
     have hroom0 := hroom
     rw [hnn] at hroom ⊢
     have hrl : RelL k (cs.take (len * i.size)) (vs.take (len * i.size)) := h5.take _
     have hvl : cs.length = vs.length := h5.1
     have hul : us.length = n * i.size := by rw [← r1.1]; exact e1
     by_cases hfit2 : len + n ≤ cap'
     ·have hspace : (len + n) * i.size ≤ cap' * i.size := Nat.mul_le_mul_right _ hfit2
      rw [Nat.add_mul] at hspace
      have hst := Cz P c e2 0 0 us (len * i.size) 0 (vs ++ ws) k.w h4 (by omega) (Cy r1 hone) (.inl rfl)
      simp only [Nat.add_zero] at hst
      have hmx : (match d' with | .int _ => true | _ => false) = false := by
       cases d' <;> first | rfl | exact absurd rfl (hd' _)
      have hrun : (Builtin.append_ ats ty #[.slice (some ⟨c, 0, none⟩) len cap', xv]).run P k.w = .ok (.slice (some ⟨c, 0, none⟩) (len + n) cap') (k.w.setRow c ((vs ++ ws).take (len * i.size) ++ us ++ (vs ++ ws).drop (len * i.size + us.length)).toArray) := by
       simp only [Builtin.append_, h0, h1, List.getElem?_toArray, List.getElem?_cons_zero, List.getElem?_cons_succ, Sem.run_bind, run_underlying hu, run_underlying hu', Result.andThen_ok, Ba hi, Sem.run_pure]
       simp only [Bool.false_eq_true, if_false, Sem.run_bind, l1, Result.andThen_ok, Sem.run_ite]
       rw [if_pos (by omega)]
       simp only [Bool.not_false, if_true, f1, Result.andThen_ok, A6, Nat.zero_add, hst, Sem.run_pure]
      have etake : (vs ++ ws).take (len * i.size) = vs.take (len * i.size) := List.take_append_of_le_length (by omega)
      have hlen2 : ((vs ++ ws).take (len * i.size) ++ us ++ (vs ++ ws).drop (len * i.size + us.length)).length = (vs ++ ws).length := by
       simp only [List.length_append, List.length_take, List.length_drop] at hs0 ⊢; omega
      obtain ⟨q1, q2, q3⟩ := hI.regrow (cs' := cs.take (len * i.size) ++ new) (us' := (vs ++ ws).take (len * i.size) ++ us ++ (vs ++ ws).drop (len * i.size + us.length)) hg hb h4
       ⟨vs.take (len * i.size) ++ us, (vs ++ ws).drop (len * i.size + us.length), e2, by rw [etake], fun h => absurd h (Nat.not_lt.2 (Nat.le_add_right _ _)), hrl.append r1⟩ hlen2
      refine ⟨_, _, hrun, ?_, q1, q2⟩
      exact .mv q3 hfit2 (setRow_heap _ _ _ _ _ _ h4) (by rw [List.size_toArray, hlen2, ← hs0, Nat.zero_add])
     ·have hold : Ai σ i.size (.ms b 0 len (Gl + i.size)) = some (cs.take (len * i.size)) := by
       simp only [Ai, hc]; rw [if_pos (by omega)]; simp
      have hol : (cs.take (len * i.size)).length = len * i.size := by rw [List.length_take]; omega
      obtain ⟨n2, cap2, us2, us', hnn2, e2', r2, r2', hcapge, hlen, hall, hrun⟩ := Dc (ty := ty) hI h0 h1 hu hu' hd' hi hz hz2 hsz hby rfl hold hs hol hn hx (by omega) hroom0
      obtain ⟨hI1, hle1⟩ := hI.drew
      obtain ⟨q1, q2, q3⟩ := (hI1.kill b).push (x := .cells (cs.take (len * i.size) ++ new) (Hw + e)) (o := .cells (us'.toArray ++ us2.toArray ++ Builtin.zeroCells z.cells (cap2 - (len + n2))) e)
       ⟨us' ++ us2, (Builtin.zeroCells z.cells (cap2 - (len + n2))).toList, e, by congr 1; apply Array.ext'; simp, fun h => absurd h (Nat.not_lt.2 (Nat.le_add_right _ _)), r2'.append r2⟩
      obtain rfl : n2 = n := by omega
      refine ⟨_, _, hrun, ?_, q1, hle1.trans q2⟩
      exact .mv q3 (by omega) (Ag k.w.drew _) ((Nat.zero_add _).trans hall.symm)
    ·split at h
     ·rename_i hq
      obtain ⟨rfl, hlt0, hfit, hroom⟩ := hq
      cases h
      obtain ⟨c, cap', rfl, hb, hlc, ⟨_, rfl⟩ | ⟨sz0, arr, e0, fr0, he0, hh0, hs0⟩⟩ := hs.msInv
      ·have hroom0 := hroom
       rw [hnn] at hroom ⊢
       have hold : Ai σ i.size (.ms b 0 cap' cap') = some (cs.take (cap' * i.size)) := by
        simp only [Ai, hc]; rw [if_pos (by omega)]; simp
       have hol : (cs.take (cap' * i.size)).length = cap' * i.size := by rw [List.length_take]; omega
       obtain ⟨n2, cap2, us2, us', hnn2, e2', r2, r2', hcapge, hlen, hall, hrun⟩ := Dc (ty := ty) hI h0 h1 hu hu' hd' hi hz hz2 hsz hby rfl hold hs hol hn hx (by omega) hroom0
       obtain ⟨hI1, hle1⟩ := hI.drew
       obtain ⟨q1, q2, q3⟩ := hI1.push (x := .cells (cs.take (cap' * i.size) ++ new) (Hw + e)) (o := .cells (us'.toArray ++ us2.toArray ++ Builtin.zeroCells z.cells (cap2 - (cap' + n2))) e)
        ⟨us' ++ us2, (Builtin.zeroCells z.cells (cap2 - (cap' + n2))).toList, e, by congr 1; apply Array.ext'; simp, fun h => absurd h (Nat.not_lt.2 (Nat.le_add_right _ _)), r2'.append r2⟩
       obtain rfl : n2 = n := by omega
       refine ⟨_, _, hrun, ?_, q1, hle1.trans q2⟩
       exact .mv q3 (by omega) (Ag k.w.drew _) ((Nat.zero_add _).trans hall.symm)
      ·omega
     ·cases h
   ·cases h
  ·exact Ho hI h0 h1 hu' hd' hs hx h

theorem N4 (hI : Inv w0 σ k) {ats : Array TypeId} {ty t t' : TypeId} {kd : IntKind} {sv xv : Value} {s x a : A} (h0 : ats[0]? = some t) (h1 : ats[1]? = some t')
  (hu' : P.underlying t' = some (.int kd)) (hs : Rel k s sv) (hx : Rel k x xv) (h : Nm P t s x σ = some (a, σ')) :
  ∃ k' v, (Builtin.append_ ats ty #[sv, xv]).run P k.w = .ok v k'.w ∧ Rel k' a v ∧ Inv w0 σ' k' ∧ k.le k' := by
 unfold Nm at h
 split at h
 case h_2 => cases h
 rename_i n e hn hu
 split at h
 case h_2 => cases h
 rename_i i hi
 split at h
 case isFalse => cases h
 rename_i hq
 obtain ⟨hsz, hn0, hnx, hzs, hzc, hby, hroom⟩ := hq
 cases h
 obtain rfl := rel_v_inv hs
 obtain ⟨kd2, n2, rfl, hp0, hp1⟩ := Ei hn
 obtain rfl := rel_v_inv hx
 obtain ⟨z, hz⟩ := Option.isSome_iff_exists.1 hzs
 have hz2 : z.cells.size = i.size := by simpa [hz] using hzc
 obtain ⟨hI1, hle1⟩ := hI.drew
 obtain ⟨cap, hcut, hcapge⟩ : ∃ cap, (Question.appendCap n 0 e).cut (k.w.tape k.w.drawn (Question.appendCap n 0 e)) = cap ∧ n ≤ cap := ⟨_, rfl, by simp [Question.cut]⟩
 have w2 : IntKind.i64.wrap n2 = (n : Int) := by rw [IntKind.wrap_i64]; omega
 have hrun : (Builtin.append_ ats ty #[.slice none 0 0, .int kd2 n2]).run P k.w = .ok (.slice (some ⟨k.w.heap.size, 0, none⟩) n cap) ((k.w.drew).alloc (.cells (#[] ++ Builtin.zeroCells z.cells n ++ Builtin.zeroCells z.cells (cap - n)) e)) := by
  have hq : (Question.appendCap n 0 e).forced = false := rfl
  have hb : ¬ ((n : Int) * (i.bytes : Int) > 2 ^ 48) := by
   have : ((n * i.bytes : Nat) : Int) ≤ 140737488355328 := by
    have : n * i.bytes ≤ (2 * n + 1024) * i.bytes := Nat.mul_le_mul_right _ (by omega)
    omega
   rw [Int.natCast_mul] at this
   have h2 : (2 : Int) ^ 48 = 281474976710656 := by decide
   omega
  have hc1 : ¬ (Builtin.nextslicecap n 0 * i.bytes > 2 ^ 48) := by
   have : (2 : Nat) ^ 48 = 281474976710656 := by decide
   have h3 : Builtin.nextslicecap n 0 = n := by unfold Builtin.nextslicecap; rw [if_pos (by omega)]
   rw [h3]
   have : n * i.bytes ≤ (2 * n + 1024) * i.bytes := Nat.mul_le_mul_right _ (by omega)
   omega
  have hz1 : ¬ ((n : Int) > IntKind.i64.max) := by
   have : IntKind.i64.max = 9223372036854775807 := by decide
   omega
  have hns : ¬ (n * i.size = 0) := by rw [hsz]; omega
  simp only [Builtin.append_, h0, h1, List.getElem?_toArray, List.getElem?_cons_zero, List.getElem?_cons_succ, Sem.run_bind, run_underlying hu, run_underlying hu', Result.andThen_ok, Ba hi, Sem.run_pure, asInt, asIntOf]
  simp only [if_true, Sem.run_ite, Sem.run_bind, Result.andThen_ok, Sem.run_pure, w2, Int.toNat_natCast, Nat.zero_add]
  rw [if_neg (by omega)]
  simp only [Bu hi, Result.andThen_ok]
  rw [if_neg hb, if_neg (by omega), if_neg (fun c => hz1 c.1), if_neg hc1]
  simp only [Sem.run_bind, run_choose, hq, Bool.false_eq_true, if_false, hcut, Result.andThen_ok, run_askRoom, World.drew_eq, Builtin.firstCells, Sem.run_pure, Bool.not_true, if_neg hns, Am hi hz, newRow, run_newObj, World.alloc_eq]
  rfl
 have hall : (#[] ++ Builtin.zeroCells z.cells n ++ Builtin.zeroCells z.cells (cap - n)).size = cap := by
  rw [Array.size_append, Array.size_append, size_zeroCells, size_zeroCells, hz2, hsz]
  simp only [List.size_toArray, List.length_nil]
  omega
 obtain ⟨g1, g2⟩ := hI1.layTok (us := #[] ++ Builtin.zeroCells z.cells n ++ Builtin.zeroCells z.cells (cap - n)) (e := e) (lo := 0) (hi := 0) (n := 0) (Nat.zero_le _) (.inl rfl)
 refine ⟨_, _, hrun, ?_, g1, hle1.trans g2⟩
 exact .raw (if_pos rfl) hcapge (fun _ => ⟨if_pos rfl, _, _, _, Ag k.w.drew _, hall⟩) ⟨0, if_pos rfl⟩

theorem Ez (hI : Inv w0 σ k) {sz : Nat} (hz : 0 < sz) {x : A} {u : Value} {new : List A} (hx : Rel k x u) (h : Ai σ sz x = some new) (m : Nat) (hm : m ≤ new.length / sz) :
  ∃ us, (Builtin.firstCells sz m u).run P k.w = .ok us k.w ∧ RelL k (new.take (m * sz)) us.toList := by
 have hms : m * sz ≤ new.length := Nat.le_trans (Nat.mul_le_mul_right _ hm) (Nat.div_mul_le_self _ _)
 unfold Ai at h
 split at h
 ·cases h
  obtain rfl := rel_v_inv hx
  exact ⟨#[], rfl, by simpa using RelL.nil k⟩
 ·rename_i s
  split at h
  ·rename_i hs
   cases h
   obtain rfl := rel_v_inv hx
   subst hs
   refine ⟨_, rfl, ?_⟩
   have e : (Array.map (fun b : UInt8 => Value.int .u8 b.toNat) (s.extract 0 m).data).toList = (s.data.toList.map fun b => Value.int .u8 b.toNat).take m := by
    rw [Array.toList_map, ByteArray.data_extract, Array.toList_extract]
    simp [List.extract_eq_take_drop, List.map_take]
   rw [e, Nat.mul_one]
   exact (Es s).take m
  ·cases h
 ·rename_i sz' cs ap
  split at h
  ·rename_i hs
   subst hs
   cases h
   cases hx with
   | @sl _ _ _ c i n cap f h1 h2 h3 h4 h5 h6 h7 h8 =>
    obtain ⟨us, g1, g2⟩ := CellsAt.load (P := P) (k := k) (c := c) (i := i + 0) (CellsAt.sub (cs := new) (fun j a ha => ⟨_, h3 j a ha, h4 j a ha⟩) 0 (m * sz'))
    have hl : ((new.drop 0).take (m * sz')).length = m * sz' := by rw [List.length_take, List.length_drop]; omega
    rw [hl] at g2
    exact ⟨us.toArray, by simpa [Builtin.firstCells] using g2, by simpa using g1⟩
   | sl0 hz0 =>
    obtain rfl : m = 0 := by simpa using hm
    exact ⟨#[], by simp only [Builtin.firstCells, Nat.zero_mul, loadCells, loadCellsFrom]; rfl, by simpa using RelL.nil k⟩
  ·cases h
 ·rename_i b o len cap
  split at h
  ·rename_i cs e hc
   split at h
   ·rename_i hle
    cases h
    obtain ⟨c, cap', rfl, hb, _, _⟩ := hx.msInv
    ·obtain ⟨g, _⟩ := hI.cellsAt hc hb
     have hlen : ((cs.drop o).take (len * sz)).length = len * sz := by rw [List.length_take, List.length_drop]; omega
     rw [hlen] at hms
     obtain ⟨us, g1, g2⟩ := (g.sub o (m * sz)).load (P := P)
     have hl : ((cs.drop o).take (m * sz)).length = m * sz := by rw [List.length_take, List.length_drop]; omega
     rw [hl, Nat.zero_add] at g2
     refine ⟨us.toArray, by simpa [Builtin.firstCells] using g2, ?_⟩
     rw [List.take_take, Nat.min_eq_left hms]
     exact g1
   ·cases h
  ·cases h
 ·cases h

theorem Pg (hI : Inv w0 σ k) {ats : Array TypeId} {ty t : TypeId} {dv sv : Value} {d s a : A} (h0 : ats[0]? = some t) (hd : Rel k d dv) (hs : Rel k s sv) (h : Qz P t d s σ = some (a, σ')) :
  ∃ k' v, (Builtin.copy_ ats ty #[dv, sv]).run P k.w = .ok v k'.w ∧ Rel k' a v ∧ Inv w0 σ' k' ∧ k.le k' := by
 unfold Qz at h
 split at h
 case h_2 => cases h
 rename_i e hu
 split at h
 case h_2 => cases h
 rename_i i hi
 split at h
 case isFalse => cases h
 rename_i hsz
 split at h
 case h_2 => cases h
 rename_i new hn
 obtain ⟨n, us, l1, f1, r1, e1⟩ := A4 (P := P) hI hsz hs hn
 have hnn : new.length / i.size = n := by rw [e1, Nat.mul_div_cancel _ hsz]
 have hpre : ∀ base dLen cap, dv = .slice base dLen cap → (Builtin.copy_ ats ty #[dv, sv]).run P k.w = (((Builtin.firstCells i.size (min n dLen) sv).run P k.w).andThen fun cells w' => ((match base with | some a => storeCells a cells.toList | none => pure ()).run P w').andThen fun _ w'' => .ok (goInt (min n dLen : Nat)) w'') := by
  rintro base dLen cap rfl
  simp only [Builtin.copy_, h0, List.getElem?_toArray, List.getElem?_cons_zero, List.getElem?_cons_succ, Sem.run_bind, run_underlying hu, Result.andThen_ok, Ba hi, l1]
  cases base <;> simp [Nat.min_def] <;> rfl
 split at h
 ·rename_i b o len cap
  split at h
  case h_2 => cases h
  rename_i cs e' hc
  split at h
  case isFalse => cases h
  rename_i hq
  obtain ⟨hone, hfit⟩ := hq
  cases h
  obtain ⟨c, cap', rfl, hb, _, _⟩ := hd.msInv
  ·rw [hnn]
   obtain ⟨us', g1, g2⟩ := Ez (P := P) hI hsz hs hn (min n len) (by rw [hnn]; exact Nat.min_le_left _ _)
   have hml : min n len * i.size ≤ len * i.size := Nat.mul_le_mul_right _ (Nat.min_le_right _ _)
   have hnl : min n len * i.size ≤ new.length := by rw [e1]; exact Nat.mul_le_mul_right _ (Nat.min_le_left _ _)
   have hul : us'.toList.length = min n len * i.size := by rw [← g2.1, List.length_take]; omega
   have hone' : Bh (new.take (min n len * i.size)) = true := List.all_eq_true.2 (fun x hx => (List.all_eq_true.1 hone) x (List.mem_of_mem_take hx))
   obtain ⟨vs, e2, h4, h5, _, q1, q2⟩ := hI.storeRow (o := o) hc hb g2 (by rw [g2.1, hul]; omega)
   have hst := Cz P c e2 0 0 us'.toList o 0 vs k.w h4 (by rw [hul]; omega) (Cy g2 hone') (.inl rfl)
   refine ⟨_, .int .i64 (min n len : Nat), ?_, D1, q1, q2⟩
   rw [hpre _ _ _ rfl, g1]
   simp only [Result.andThen_ok, hst, Nat.add_zero, K.wd, goInt]
 ·cases h
  obtain rfl := rel_v_inv hd
  obtain ⟨us', g1, g2⟩ := Ez (P := P) hI hsz hs hn 0 (Nat.zero_le _)
  refine ⟨k, .int .i64 0, ?_, D1, hI, K.le.refl k⟩
  rw [hpre _ _ _ rfl]
  simp only [Nat.min_zero, g1, Result.andThen_ok, Sem.run_pure, goInt]
  rfl
 ·rename_i sz cs ap
  split at h
  ·rename_i hnil
   subst hnil
   cases h
   obtain ⟨c, cap, rfl⟩ := hd.slInv
   have hn0 : n = 0 := by
    rcases Nat.eq_zero_or_pos n with h | h
    ·exact h
    ·have := Nat.mul_pos h hsz; simp at e1; omega
   subst hn0
   obtain ⟨us', g1, g2⟩ := Ez (P := P) hI hsz hs hn 0 (Nat.zero_le _)
   have : us' = #[] := by
    have := g2.1
    simp at this
    exact Array.eq_empty_of_size_eq_zero this.symm
   subst this
   refine ⟨k, .int .i64 0, ?_, D1, hI, K.le.refl k⟩
   rw [hpre _ _ _ rfl]
   simp only [Nat.zero_min, g1, Result.andThen_ok, storeCells, Sem.run_pure, goInt]
   rfl
  ·cases h
 ·cases h

theorem U0 {t : TypeId} {x y : A} {u v : Value} {b : Bool} (hx : Rel k x u) (hy : Rel k y v) (h : eqA P t x y = some b) :
  (∀ op p q, (eqGuard op t p q u v).run P k.w = .ok () k.w) ∧ (binOp .eql t u v).run P k.w = .ok (.bool b) k.w ∧ (binOp .neq t u v).run P k.w = .ok (.bool !b) k.w := by
 have fin : ∀ (hq : (∀ op p q, (eqGuard op t p q u v).run P k.w = .ok () k.w)) (h1 : binOp .eql t u v = (do pure (.bool (← Op.equal t u v)))) (h2 : binOp .neq t u v = (do pure (.bool (!(← Op.equal t u v))))) (h3 : ∀ d, (Op.equalIn (d + 1) t u v).run P k.w = .ok b k.w), _ :=
  fun hq h1 h2 h4 => have h3 : (Op.equal t u v).run P k.w = .ok b k.w := h4 9999; (⟨hq, by rw [h1]; simp [h3], by rw [h2]; simp [h3]⟩ : (∀ op p q, (eqGuard op t p q u v).run P k.w = .ok () k.w) ∧ (binOp .eql t u v).run P k.w = .ok (.bool b) k.w ∧ (binOp .neq t u v).run P k.w = .ok (.bool !b) k.w)
 unfold eqA at h
 split at h
 ·rename_i hu; cases h
  obtain ⟨c, cap, rfl⟩ := hx.slInv
  obtain rfl := rel_v_inv hy
  exact fin (fun op p q => by simp [go_sem]) rfl rfl (fun d => by simp [Op.equalIn, run_underlying hu])
 ·rename_i hu; cases h
  obtain ⟨c, cap, rfl⟩ := hy.slInv
  obtain rfl := rel_v_inv hx
  exact fin (fun op p q => by simp [go_sem]) rfl rfl (fun d => by simp [Op.equalIn, run_underlying hu])
 ·rename_i hu; cases h
  obtain rfl := rel_v_inv hy
  cases hx <;>
  exact fin (fun op p q => by simp [go_sem]) rfl rfl (fun d => by simp [Op.equalIn, run_underlying hu])
 ·rename_i hu; cases h
  obtain rfl := rel_v_inv hy
  cases hx
  exact fin (fun op p q => by simp [go_sem]) rfl rfl (fun d => by simp [Op.equalIn, run_underlying hu])
 ·rename_i hu; cases h
  obtain rfl := rel_v_inv hx
  cases hy
  exact fin (fun op p q => by simp [go_sem]) rfl rfl (fun d => by simp [Op.equalIn, run_underlying hu])
 ·rename_i e b1 o1 b2 o2 hu
  split at h
  ·rename_i hbb
   subst hbb
   split at h
   ·rename_i n hn
    split at h
    ·cases h
    ·rename_i hn0
     cases h
     cases hx with
     | ptr h1 => cases hy with
      | ptr h2 =>
       rw [h1] at h2; cases h2
       refine fin (fun op p q => by simp [go_sem]) rfl rfl (fun d => ?_)
       by_cases e : o1 = o2
       ·subst e; simp [Op.equalIn, run_underlying hu, Ah hn, sameAddr]
       ·have hb : ∀ c, ((⟨c, o1, none⟩ : Addr) == ⟨c, o2, none⟩) = (o1 == o2) := fun c => by rw [Bool.eq_iff_iff]; simpa using e
        simp [Op.equalIn, run_underlying hu, Ah hn, hn0, sameAddr, hb]
   ·cases h
  ·cases h
 ·rename_i hu; cases h
  obtain rfl := rel_v_inv hy
  cases hx
  exact fin (fun op p q => by simp [go_sem]) rfl rfl (fun d => by simp [Op.equalIn, run_underlying hu])
 ·rename_i hu; cases h
  obtain rfl := rel_v_inv hx
  cases hy
  exact fin (fun op p q => by simp [go_sem]) rfl rfl (fun d => by simp [Op.equalIn, run_underlying hu])
 ·rename_i hu; cases h
  obtain rfl := rel_v_inv hy
  cases hx
  exact fin (fun op p q => by simp [go_sem]) rfl rfl (fun d => by simp [Op.equalIn, run_underlying hu])
 ·rename_i hu; cases h
  obtain rfl := rel_v_inv hy
  cases hx
  exact fin (fun op p q => by simp [go_sem]) rfl rfl (fun d => by simp [Op.equalIn, run_underlying hu])
 ·rename_i hu; cases h
  obtain rfl := rel_v_inv hx
  cases hy
  exact fin (fun op p q => by simp [go_sem]) rfl rfl (fun d => by simp [Op.equalIn, run_underlying hu])
 ·cases h
end
end Go.DM
namespace Go.DM
open Go Go.RowKit

section
variable {P : Program} {w0 : World} {σ σ' : St} {k : K}

theorem Ph : ∀ (vs us : List Value) (off j : Nat), off + j + vs.length ≤ us.length →
  (vs.zipIdx j).foldl (fun (cs : Array Value) (x : Value × Nat) => cs.setIfInBounds (off + x.2) x.1) us.toArray = (us.take (off + j) ++ vs ++ us.drop (off + j + vs.length)).toArray
 | [], us, off, j, _ => by simp
 | v :: vs, us, off, j, h => by
  simp only [List.zipIdx_cons, List.foldl_cons]
  have e : (us.toArray.setIfInBounds (off + j) v) = (us.set (off + j) v).toArray := by simp
  rw [e, Ph vs (us.set (off + j) v) off (j + 1) (by simp at h ⊢; omega)]
  have hlen : off + j < us.length := by simp at h; omega
  have e1 : off + (j + 1) = off + j + 1 := by omega
  have h1 : List.take (off + j + 1) (us.set (off + j) v) = us.take (off + j) ++ [v] := by
   rw [List.take_succ_eq_append_getElem (by simp; exact hlen)]
   simp [List.take_set]
   rw [List.set_eq_of_length_le (by rw [List.length_take]; exact Nat.min_le_left _ _)]
  rw [e1, h1, List.drop_set]
  simp only [List.length_cons]
  rw [if_pos (by omega)]
  simp only [List.append_assoc, List.cons_append, List.nil_append]
  rw [show off + j + 1 + vs.length = off + j + (vs.length + 1) by omega]

def PartsRel (k : K) (l : List (Nat × A)) (m : List (Nat × Value)) : Prop := l.length = m.length ∧ ∀ (j : Nat) (x : Nat × A) (y : Nat × Value), l[j]? = some x → m[j]? = some y → y.1 = x.1 ∧ Rel k x.2 y.2
theorem PartsRel.tail {x : Nat × A} {y : Nat × Value} {l : List (Nat × A)} {m : List (Nat × Value)} (h : PartsRel k (x :: l) (y :: m)) : y.1 = x.1 ∧ Rel k x.2 y.2 ∧ PartsRel k l m :=
 ⟨(h.2 0 x y rfl rfl).1, (h.2 0 x y rfl rfl).2, by simpa using h.1, fun j a b ha hb => h.2 (j + 1) a b (by simpa using ha) (by simpa using hb)⟩

theorem Ij {place : Nat → Option (Nat × Nat)} : ∀ {l : List (Nat × A)} {m : List (Nat × Value)} {cs cs' : List A} {us : List Value}, RelL k cs us → PartsRel k l m → (∀ x ∈ l, x.2 ≠ .junk) → lay place cs l = some cs' →
  ∃ us', Instr.fill place us.toArray m = some us'.toArray ∧ RelL k cs' us'
 | [], m, cs, cs', us, hr, hp, _, h => by
  simp only [lay] at h; cases h
  have : m = [] := List.eq_nil_of_length_eq_zero (by simpa using hp.1.symm)
  subst this
  exact ⟨us, rfl, hr⟩
 | (i, x) :: l, m, cs, cs', us, hr, hp, hj, h => by
  match m, hp with
  | (i', v) :: m, hp =>
   obtain ⟨h1, h2, h3⟩ := hp.tail
   simp only at h1 h2
   subst h1
   simp only [lay] at h
   split at h
   ·cases h
   ·rename_i off size hpl
    split at h
    ·rename_i hq
     obtain ⟨q1, q2⟩ := hq
     have hc := h2.cells (hj (i', x) (by simp))
     have hl : v.cells.toList.length = size := by rw [← hc.1]; exact q1
     have hl' : v.cells.size = size := by simpa using hl
     obtain ⟨us', g1, g2⟩ := Ij (place := place) (RelL.splice hr hc off) h3 (fun y hy => hj y (by simp [hy])) h
     refine ⟨us', ?_, g2⟩
     simp only [Instr.fill, hpl]
     rw [if_neg (by
      simp only [hl', List.size_toArray, ← hr.1]
      simp; omega)]
     rw [← g1]
     congr 1
     have := Ph v.cells.toList us off 0 (by rw [hl, ← hr.1]; simpa using q2)
     simp only [Nat.add_zero] at this
     rw [← this, ← Array.foldl_toList]
     simp
    ·cases h

theorem Gu (w : World) : ∀ {fs : List Field} {ps : List (Nat × Nat)}, Gp P fs = some ps → (fs.mapM fun f => do pure (f.offset, ← sizeOf f.type) : Sem (List (Nat × Nat))).run P w = .ok ps w
 | [], ps, h => by simp only [Gp] at h; cases h; rfl
 | f :: fs, ps, h => by
  simp only [Gp] at h
  split at h
  ·rename_i n l h1 h2
   cases h
   have := Gu w h2
   simp only [List.mapM_cons, Sem.run_bind, Ah h1, Result.andThen_ok, Sem.run_pure, this]
  ·cases h

theorem N5 {t : TypeId} {l : List (Nat × A)} {m : Array (Nat × Value)} {a : A} (hp : PartsRel k l m.toList) (hj : ∀ x ∈ l, x.2 ≠ .junk) (h : Np P t l = some a) : ∃ v, (Instr.build t m).run P k.w = .ok v k.w ∧ Rel k a v := by
 unfold Np at h
 split at h
 ·rename_i fs z hu hz
  obtain ⟨i, zv, us, g1, g2, g3, g4⟩ := C4 (k := k) hz
  split at h
  ·rename_i ps hps
   split at h
   ·rename_i cs hl
    cases h
    obtain ⟨us', f1, f2⟩ := Ij (k := k) g4 hp hj hl
    refine ⟨.agg us'.toArray, ?_, D0 f2⟩
    have hmap : (fs.mapM fun f => do pure (f.offset, ← sizeOf f.type) : Sem (Array (Nat × Nat))).run P k.w = .ok ps.toArray k.w := by
     rw [Array.mapM_eq_mapM_toList, Sem.run_map, Gu k.w hps]
     rfl
    simp only [Instr.build, Sem.run_bind, Am g1 g2, Result.andThen_ok, run_underlying hu, hmap]
    have hf : Instr.fill (fun x => ps.toArray[x]?) zv.cells m.toList = some us'.toArray := by
     rw [g3, ← f1]
     congr 1
     funext x
     simp
    rw [hf]
    rfl
   ·cases h
  ·cases h
 ·rename_i n e z hu hz
  obtain ⟨i, zv, us, g1, g2, g3, g4⟩ := C4 (k := k) hz
  split at h
  ·rename_i sz hs
   split at h
   ·rename_i cs hl
    cases h
    obtain ⟨us', f1, f2⟩ := Ij (k := k) g4 hp hj hl
    refine ⟨.agg us'.toArray, ?_, D0 f2⟩
    simp only [Instr.build, Sem.run_bind, Am g1 g2, Result.andThen_ok, run_underlying hu, Ah hs]
    rw [g3, f1]
    rfl
   ·cases h
  ·cases h
 ·cases h

theorem Fz (z : List A) : ∀ n, (rep n z).length = n * z.length
 | 0 => by simp [rep]
 | n + 1 => by rw [rep, List.length_append, Fz z n, Nat.add_mul]; omega
theorem Sp (z : List A) : ∀ n j, j < n * z.length → (rep n z)[j]? = z[j % z.length]?
 | 0, j, h => by simp at h
 | n + 1, j, h => by
  rw [rep]
  by_cases hj : j < z.length
  ·rw [List.getElem?_append_left hj, Nat.mod_eq_of_lt hj]
  ·rw [List.getElem?_append_right (by omega), Sp z n (j - z.length) (by rw [Nat.add_mul] at h; omega)]
   congr 1
   exact (Nat.mod_eq_sub_mod (by omega)).symm
theorem Sq {z : List A} {us : List Value} (h : RelL k z us) (n : Nat) : RelL k (rep n z) ((Array.range (n * z.length)).map (us.toArray[· % us.toArray.size]!)).toList := by
 refine ⟨by simp [Fz], fun j a u ha hu => ?_⟩
 have hj := Be ha
 rw [Fz] at hj
 rw [Sp z n j hj] at ha
 have hzp : 0 < z.length := by
  rcases Nat.eq_zero_or_pos z.length with h0 | h0
  ·rw [h0] at hj; omega
  ·exact h0
 have hm : j % z.length < us.length := by rw [← h.1]; exact Nat.mod_lt _ hzp
 simp only [Array.getElem?_toList, Array.getElem?_map, Option.map_eq_some_iff] at hu
 obtain ⟨j', hj', rfl⟩ := hu
 have : j' = j := by
  have := Array.getElem?_eq_some_iff.1 hj'
  obtain ⟨q, rfl⟩ := this
  simp
 subst this
 refine h.2 _ a _ ha ?_
 simp only [List.size_toArray]
 rw [← h.1, getElem!_pos (c := us.toArray) (h := by simpa using hm)]
 simp [hm]

theorem E8 (k : K) {t : TypeId} {len : Nat} {l : List (Nat × A)} {m : Array (Nat × Value)} {a : A} (hp : PartsRel k l m.toList) (hj : ∀ x ∈ l, x.2 ≠ .junk) (h : C7 P t len l = some a) :
  ∃ (e : TypeId) (sz : Nat) (cs : List A) (us' : List Value), P.underlying t = some (.slice e) ∧ a = .sl sz cs .ex ∧ RelL k cs us' ∧ 0 < sz ∧ cs.length = len * sz ∧ (Instr.buildSlice t len m).run P k.w = .ok (.slice (some ⟨k.w.heap.size, 0, none⟩) len len) (k.w.alloc (.cells us'.toArray e)) := by
 unfold C7 at h
 split at h
 case h_2 => cases h
 rename_i e hu
 split at h
 case h_2 => cases h
 rename_i sz hs
 split at h
 case isFalse => cases h
 rename_i hc
 obtain ⟨hz, hbig⟩ := hc
 split at h
 case h_2 => cases h
 rename_i z hzz
 split at h
 case isFalse => cases h
 rename_i hlz
 split at h
 case h_2 => cases h
 rename_i cs hl
 cases h
 obtain ⟨zu, hzr, hzrun⟩ : ∃ zu : List Value, RelL k z zu ∧ ((len = 0 ∧ zu = []) ∨ (len ≠ 0 ∧ ∃ i zv, P.info? e = some i ∧ i.zero = some zv ∧ zv.cells = zu.toArray)) := by
  by_cases h0 : len = 0
  ·rw [if_pos h0] at hzz; cases hzz
   exact ⟨[], RelL.nil k, .inl ⟨h0, rfl⟩⟩
  ·rw [if_neg h0] at hzz
   obtain ⟨i, zv, us, g1, g2, g3, g4⟩ := C4 (k := k) hzz
   exact ⟨us, g4, .inr ⟨h0, i, zv, g1, g2, g3⟩⟩
 have hlen : len * z.length = len * sz := by
  rcases hlz with h0 | h0
  ·rw [h0]; simp
  ·rw [h0]
 have hr0 := Sq hzr len
 obtain ⟨us', f1, f2⟩ := Ij (k := k) hr0 hp hj hl
 have hcs : cs.length = len * sz := by
  have hlay : ∀ (l : List (Nat × A)) (c0 c1 : List A), lay (fun i => some (i * sz, sz)) c0 l = some c1 → c1.length = c0.length := by
   intro l
   induction l with
   | nil => intro c0 c1 h; simp only [lay] at h; cases h; rfl
   | cons x l ih =>
    intro c0 c1 h
    obtain ⟨i, x⟩ := x
    simp only [lay] at h
    split at h
    ·rename_i hq
     rw [ih _ _ h]
     simp only [splice, List.length_append, List.length_take, List.length_drop]
     omega
    ·cases h
  rw [hlay _ _ _ hl, Fz]; exact hlen
 refine ⟨e, sz, cs, us', hu, rfl, f2, hz, hcs, ?_⟩
 have hb : ¬ len * sz > 2 ^ 24 := by
  have : (2 : Nat) ^ 24 = 16777216 := by decide
  omega
 simp only [Instr.buildSlice, Sem.run_bind, run_underlying hu, Result.andThen_ok, Ah hs, Sem.run_ite]
 rw [if_neg hb]
 have hf : Instr.fill (fun i => some (i * sz, sz)) ((Array.range (len * sz)).map (zu.toArray[· % zu.toArray.size]!)) m.toList = some us'.toArray := by
  rw [← f1, hlen]
 rcases hzrun with ⟨h0, rfl⟩ | ⟨h0, i, zv, g5, g6, g7⟩
 ·have hz0 : len * sz = 0 := by rw [h0, Nat.zero_mul]
  simp only [Sem.run_pure, Result.andThen_ok]
  rw [if_pos hz0, show (#[] : Array Value) = ([] : List Value).toArray from rfl, hf]
  simp [newRow]
 ·have hz0 : ¬ len * sz = 0 := Nat.mul_ne_zero h0 (by omega)
  simp only [Sem.run_pure, Result.andThen_ok, Am g5 g6]
  rw [if_neg hz0, g7, hf]
  simp [newRow]
theorem Et (hI : Inv w0 σ k) {t : TypeId} {len : Nat} {l : List (Nat × A)} {m : Array (Nat × Value)} {a : A} (hp : PartsRel k l m.toList) (hj : ∀ x ∈ l, x.2 ≠ .junk) (h : C7 P t len l = some a) :
  ∃ k' v, (Instr.buildSlice t len m).run P k.w = .ok v k'.w ∧ Rel k' a v ∧ Inv w0 σ k' ∧ k.le k' := by
 obtain ⟨e, sz, cs, us', hu, rfl, f2, hz, hcs, hrun⟩ := E8 k hp hj h
 obtain ⟨g1, g2, g3, g4⟩ := hI.lay (us := us'.toArray) (e := e) (fr := (0, 0)) (n := us'.length) (by simp)
 have hdiv : cs.length / sz = len := by rw [hcs, Nat.mul_div_cancel _ hz]
 refine ⟨_, .slice (some ⟨k.w.heap.size, 0, none⟩) len len, hrun, ?_, g1, g2⟩
 suffices key : Rel (k.lay (.cells us'.toArray e (0, 0)) us'.length) (.sl sz cs .ex) (.slice (some ⟨k.w.heap.size, 0, none⟩) (cs.length / sz) (cs.length / sz)) by
  rw [hdiv] at key; exact key
 have hr := f2.mono g2
 have hblk : (k.w.alloc (.cells us'.toArray e)).heap[k.w.heap.size]? = some (.cells us'.toArray e (0, 0)) := Ag k.w _
 refine .sl (n := us'.length) (fun j => us'.getD j undef) g3 (by rw [hr.1]; omega) (fun j a ha => ?_) (fun j a ha => ?_) hz (by rw [hdiv]; exact hcs) (Nat.le_refl _) ⟨rfl, by rw [g2.base, hI.base]; exact hI.below.size, g4⟩
 ·obtain ⟨u, w1, _⟩ := hr.get ha
  refine (Bl hblk).trans ?_
  simp [List.getD, w1]
 ·obtain ⟨u, w1, w2⟩ := hr.get ha
  simp only [List.getD, w1, Option.getD_some]
  exact w2
theorem Jg (hI : Inv w0 σ k) {t : TypeId} {len : Nat} {l : List (Nat × A)} {m : Array (Nat × Value)} {a : A} {σ' : St} (hp : PartsRel k l m.toList) (hj : ∀ x ∈ l, x.2 ≠ .junk) (h : Gq P t len l σ = some (a, σ')) :
  ∃ k' v, (Instr.buildSlice t len m).run P k.w = .ok v k'.w ∧ Rel k' a v ∧ Inv w0 σ' k' ∧ k.le k' := by
 unfold Gq at h
 split at h
 case h_2 => cases h
 rename_i e hu
 split at h
 case h_2 => cases h
 rename_i sz cs ap hb
 split at h
 ·cases h
  exact Et hI hp hj hb
 split at h
 case isFalse => cases h
 rename_i hc
 cases h
 obtain ⟨e', sz', cs', us', hu', ha, f2, hz, hcs, hrun⟩ := E8 k hp hj hb
 rw [hu] at hu'
 cases hu'
 cases ha
 obtain ⟨q1, q2, q3⟩ := hI.push (x := .cells cs e) (o := .cells us'.toArray e) (.of f2)
 exact ⟨_, _, hrun, .ms q3 (Nat.le_refl _) hc, q1, q2⟩
end
end Go.DM
