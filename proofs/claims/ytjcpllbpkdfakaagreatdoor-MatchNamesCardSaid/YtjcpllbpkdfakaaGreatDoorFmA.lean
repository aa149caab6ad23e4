/- This text states the fast machine (an interpreter of compiled code) and proves its frames, blocks and numbers equal to the D-machine's. No condition. -/
import Derived.Test.YtjcpllbpkdfakaaGreatDoorDmE
set_option linter.constructorNameAsVariable false
namespace Go.DM.FM
open Go
noncomputable section
/-- sixteen slots -/
structure N16 where
  a : A
  b : A
  c : A
  d : A
  e : A
  f : A
  g : A
  h : A
  i : A
  j : A
  k : A
  l : A
  m : A
  n : A
  o : A
  p : A
structure FF where
  a : N16
  b : N16
  c : N16
  d : N16
  e : N16
  f : N16
  g : N16
  h : N16
  i : N16
  j : N16
  k : N16
  l : N16
  m : N16
  n : N16
  o : N16
  p : N16
inductive D16 where
  | ka | kb | kc | kd | ke | kf | kg | kh | ki | kj | kk | kl | km | kn | ko | kp
  deriving DecidableEq
def sel2 (i : D16) : N16 → A := D16.rec (motive := fun _ => N16 → A) N16.a N16.b N16.c N16.d N16.e N16.f N16.g N16.h N16.i N16.j N16.k N16.l N16.m N16.n N16.o N16.p i
def sel1 (i : D16) : FF → N16 := D16.rec (motive := fun _ => FF → N16) FF.a FF.b FF.c FF.d FF.e FF.f FF.g FF.h FF.i FF.j FF.k FF.l FF.m FF.n FF.o FF.p i
def set2a (t : N16) : A → N16 := N16.rec (motive := fun _ => A → N16) (fun _a b c d e f g h i j k l m n o p z => ⟨z, b, c, d, e, f, g, h, i, j, k, l, m, n, o, p⟩) t
def set2b (t : N16) : A → N16 := N16.rec (motive := fun _ => A → N16) (fun a _b c d e f g h i j k l m n o p z => ⟨a, z, c, d, e, f, g, h, i, j, k, l, m, n, o, p⟩) t
def set2c (t : N16) : A → N16 := N16.rec (motive := fun _ => A → N16) (fun a b _c d e f g h i j k l m n o p z => ⟨a, b, z, d, e, f, g, h, i, j, k, l, m, n, o, p⟩) t
def set2d (t : N16) : A → N16 := N16.rec (motive := fun _ => A → N16) (fun a b c _d e f g h i j k l m n o p z => ⟨a, b, c, z, e, f, g, h, i, j, k, l, m, n, o, p⟩) t
def set2e (t : N16) : A → N16 := N16.rec (motive := fun _ => A → N16) (fun a b c d _e f g h i j k l m n o p z => ⟨a, b, c, d, z, f, g, h, i, j, k, l, m, n, o, p⟩) t
def set2f (t : N16) : A → N16 := N16.rec (motive := fun _ => A → N16) (fun a b c d e _f g h i j k l m n o p z => ⟨a, b, c, d, e, z, g, h, i, j, k, l, m, n, o, p⟩) t
def set2g (t : N16) : A → N16 := N16.rec (motive := fun _ => A → N16) (fun a b c d e f _g h i j k l m n o p z => ⟨a, b, c, d, e, f, z, h, i, j, k, l, m, n, o, p⟩) t
def set2h (t : N16) : A → N16 := N16.rec (motive := fun _ => A → N16) (fun a b c d e f g _h i j k l m n o p z => ⟨a, b, c, d, e, f, g, z, i, j, k, l, m, n, o, p⟩) t
def set2i (t : N16) : A → N16 := N16.rec (motive := fun _ => A → N16) (fun a b c d e f g h _i j k l m n o p z => ⟨a, b, c, d, e, f, g, h, z, j, k, l, m, n, o, p⟩) t
def set2j (t : N16) : A → N16 := N16.rec (motive := fun _ => A → N16) (fun a b c d e f g h i _j k l m n o p z => ⟨a, b, c, d, e, f, g, h, i, z, k, l, m, n, o, p⟩) t
def set2k (t : N16) : A → N16 := N16.rec (motive := fun _ => A → N16) (fun a b c d e f g h i j _k l m n o p z => ⟨a, b, c, d, e, f, g, h, i, j, z, l, m, n, o, p⟩) t
def set2l (t : N16) : A → N16 := N16.rec (motive := fun _ => A → N16) (fun a b c d e f g h i j k _l m n o p z => ⟨a, b, c, d, e, f, g, h, i, j, k, z, m, n, o, p⟩) t
def set2m (t : N16) : A → N16 := N16.rec (motive := fun _ => A → N16) (fun a b c d e f g h i j k l _m n o p z => ⟨a, b, c, d, e, f, g, h, i, j, k, l, z, n, o, p⟩) t
def set2n (t : N16) : A → N16 := N16.rec (motive := fun _ => A → N16) (fun a b c d e f g h i j k l m _n o p z => ⟨a, b, c, d, e, f, g, h, i, j, k, l, m, z, o, p⟩) t
def set2o (t : N16) : A → N16 := N16.rec (motive := fun _ => A → N16) (fun a b c d e f g h i j k l m n _o p z => ⟨a, b, c, d, e, f, g, h, i, j, k, l, m, n, z, p⟩) t
def set2p (t : N16) : A → N16 := N16.rec (motive := fun _ => A → N16) (fun a b c d e f g h i j k l m n o _p z => ⟨a, b, c, d, e, f, g, h, i, j, k, l, m, n, o, z⟩) t
def set2 (i : D16) : N16 → A → N16 := D16.rec (motive := fun _ => N16 → A → N16) set2a set2b set2c set2d set2e set2f set2g set2h set2i set2j set2k set2l set2m set2n set2o set2p i
def set1a (t : FF) : N16 → FF := FF.rec (motive := fun _ => N16 → FF) (fun _a b c d e f g h i j k l m n o p z => ⟨z, b, c, d, e, f, g, h, i, j, k, l, m, n, o, p⟩) t
def set1b (t : FF) : N16 → FF := FF.rec (motive := fun _ => N16 → FF) (fun a _b c d e f g h i j k l m n o p z => ⟨a, z, c, d, e, f, g, h, i, j, k, l, m, n, o, p⟩) t
def set1c (t : FF) : N16 → FF := FF.rec (motive := fun _ => N16 → FF) (fun a b _c d e f g h i j k l m n o p z => ⟨a, b, z, d, e, f, g, h, i, j, k, l, m, n, o, p⟩) t
def set1d (t : FF) : N16 → FF := FF.rec (motive := fun _ => N16 → FF) (fun a b c _d e f g h i j k l m n o p z => ⟨a, b, c, z, e, f, g, h, i, j, k, l, m, n, o, p⟩) t
def set1e (t : FF) : N16 → FF := FF.rec (motive := fun _ => N16 → FF) (fun a b c d _e f g h i j k l m n o p z => ⟨a, b, c, d, z, f, g, h, i, j, k, l, m, n, o, p⟩) t
def set1f (t : FF) : N16 → FF := FF.rec (motive := fun _ => N16 → FF) (fun a b c d e _f g h i j k l m n o p z => ⟨a, b, c, d, e, z, g, h, i, j, k, l, m, n, o, p⟩) t
def set1g (t : FF) : N16 → FF := FF.rec (motive := fun _ => N16 → FF) (fun a b c d e f _g h i j k l m n o p z => ⟨a, b, c, d, e, f, z, h, i, j, k, l, m, n, o, p⟩) t
def set1h (t : FF) : N16 → FF := FF.rec (motive := fun _ => N16 → FF) (fun a b c d e f g _h i j k l m n o p z => ⟨a, b, c, d, e, f, g, z, i, j, k, l, m, n, o, p⟩) t
def set1i (t : FF) : N16 → FF := FF.rec (motive := fun _ => N16 → FF) (fun a b c d e f g h _i j k l m n o p z => ⟨a, b, c, d, e, f, g, h, z, j, k, l, m, n, o, p⟩) t
def set1j (t : FF) : N16 → FF := FF.rec (motive := fun _ => N16 → FF) (fun a b c d e f g h i _j k l m n o p z => ⟨a, b, c, d, e, f, g, h, i, z, k, l, m, n, o, p⟩) t
def set1k (t : FF) : N16 → FF := FF.rec (motive := fun _ => N16 → FF) (fun a b c d e f g h i j _k l m n o p z => ⟨a, b, c, d, e, f, g, h, i, j, z, l, m, n, o, p⟩) t
def set1l (t : FF) : N16 → FF := FF.rec (motive := fun _ => N16 → FF) (fun a b c d e f g h i j k _l m n o p z => ⟨a, b, c, d, e, f, g, h, i, j, k, z, m, n, o, p⟩) t
def set1m (t : FF) : N16 → FF := FF.rec (motive := fun _ => N16 → FF) (fun a b c d e f g h i j k l _m n o p z => ⟨a, b, c, d, e, f, g, h, i, j, k, l, z, n, o, p⟩) t
def set1n (t : FF) : N16 → FF := FF.rec (motive := fun _ => N16 → FF) (fun a b c d e f g h i j k l m _n o p z => ⟨a, b, c, d, e, f, g, h, i, j, k, l, m, z, o, p⟩) t
def set1o (t : FF) : N16 → FF := FF.rec (motive := fun _ => N16 → FF) (fun a b c d e f g h i j k l m n _o p z => ⟨a, b, c, d, e, f, g, h, i, j, k, l, m, n, z, p⟩) t
def set1p (t : FF) : N16 → FF := FF.rec (motive := fun _ => N16 → FF) (fun a b c d e f g h i j k l m n o _p z => ⟨a, b, c, d, e, f, g, h, i, j, k, l, m, n, o, z⟩) t
def set1 (i : D16) : FF → N16 → FF := D16.rec (motive := fun _ => FF → N16 → FF) set1a set1b set1c set1d set1e set1f set1g set1h set1i set1j set1k set1l set1m set1n set1o set1p i
def row0 : N16 := ⟨.junk, .junk, .junk, .junk, .junk, .junk, .junk, .junk, .junk, .junk, .junk, .junk, .junk, .junk, .junk, .junk⟩
def ff0 : FF := ⟨row0, row0, row0, row0, row0, row0, row0, row0, row0, row0, row0, row0, row0, row0, row0, row0⟩
def dig (n : Nat) : D16 := Nat.rec .ka (fun n _ =>  Nat.rec .kb (fun n _ =>  Nat.rec .kc (fun n _ =>  Nat.rec .kd (fun n _ =>  Nat.rec .ke (fun n _ =>  Nat.rec .kf (fun n _ =>  Nat.rec .kg (fun n _ =>  Nat.rec .kh (fun n _ =>  Nat.rec .ki (fun n _ =>  Nat.rec .kj (fun n _ =>  Nat.rec .kk (fun n _ =>  Nat.rec .kl (fun n _ =>  Nat.rec .km (fun n _ =>  Nat.rec .kn (fun n _ =>  Nat.rec .ko (fun _n _ => .kp) n) n) n) n) n) n) n) n) n) n) n) n) n) n) n
def nthA (l : List A) (n : Nat) : A := Nat.rec (motive := fun _ => List A → A) (fun l => List.rec .junk (fun a _ _ => a) l) (fun _ ih l => List.rec .junk (fun _ r _ => ih r) l) n l
def trGet (t : Tr Blk) (n : Nat) : Option Blk := Tr.rec (motive := fun _ => Nat → Option Blk) (fun _ => none) (fun _ v _ ihl ihr n => Nat.rec v (fun m _ => cond (Nat.beq (Nat.land m 1) 0) (ihl (Nat.shiftRight m 1)) (ihr (Nat.shiftRight m 1))) n) t n
def cellsB (x : Option Blk) (f : List A → A) : A := Option.rec (motive := fun _ => (List A → A) → A) (fun _ => .junk) (fun x f => Blk.rec (motive := fun _ => (List A → A) → A) (fun cs _ f => f cs) (fun _ _ _ => .junk) (fun _ _ _ => .junk) (fun _ _ _ _ _ => .junk) x f) x f
def cellsA (σ : St) (b : Nat) (f : List A → A) : A := cellsB (trGet σ.blks b) f
def vi (k : IntKind) (z : Int) : A := .v (.int k z)
def vb (b : Bool) : A := .v (.bool b)
def fnA (f : Fn) (a c : List A) : A := match f with | .func g => .fn (.func g) a c | _ => .junk
-- strings as numbers, for their bytes
def packH (l : List UInt8) : Nat → Nat → Nat → Nat → Nat := List.rec (motive := fun _ => Nat → Nat → Nat → Nat → Nat) (fun _ acc I big => Nat.add big (Nat.shiftLeft acc I))
  (fun b _ ih i acc I big => cond (Nat.beq i 248) (Nat.rec (ih 0 0 (Nat.add I 256) 0) (fun m _ => ih 0 0 (Nat.add I 256) (Nat.succ m)) (Nat.add big (Nat.shiftLeft (Nat.add acc (Nat.shiftLeft b.toNat i)) I)))
    (Nat.rec (ih (Nat.add i 8) 0 I big) (fun m _ => ih (Nat.add i 8) (Nat.succ m) I big) (Nat.add acc (Nat.shiftLeft b.toNat i)))) l
def packN (s : ByteArray) : Nat := packH s.data.toList 0 0 0 0
def sizeG (l : List UInt8) : Nat → Nat := List.rec (motive := fun _ => Nat → Nat) (fun n => n) (fun _ _ ih n => Nat.rec 0 (fun m _ => ih (Nat.succ m)) (Nat.succ n)) l
def sizeN (s : ByteArray) : Nat := sizeG s.data.toList 0
def byteN (s : ByteArray) (i : Nat) : Nat := Nat.land (Nat.shiftRight (packN s) (Nat.mul i 8)) 255
def bytesG (N : Nat) (n : Nat) (i : Nat) (K : List UInt8 → A) : A := Nat.rec (motive := fun _ => Nat → (List UInt8 → A) → A) (fun _ K => K []) (fun _ ih i K => ih (Nat.add i 8) fun l => K (UInt8.ofNat (Nat.land (Nat.shiftRight N i) 255) :: l)) n i K
abbrev RX := Option (X × FF × St)
abbrev KA := A → St → RX
def eI (x : A) (f : IntKind → Int → A) : A := A.rec (motive_1 := fun _ => (IntKind → Int → A) → A) (motive_2 := fun _ => Unit) (fun u f => Value.rec (motive_1 := fun _ => (IntKind → Int → A) → A) (motive_2 := fun _ => Unit) (motive_3 := fun _ => Unit) (fun _ _ => .junk) (fun k n f => f k n) (fun _ _ _ => .junk) (fun _ _ _ _ => .junk) (fun _ _ => .junk) (fun _ _ => .junk) (fun _ _ _ _ => .junk) (fun _ _ => .junk) (fun _ _ => .junk) (fun _ _ _ _ _ _ => .junk) (fun _ => .junk) (fun _ _ _ _ => .junk) (fun _ => .junk) (fun _ _ _ => .junk) (fun _ _ _ => .junk) (fun _ _ => ()) () (fun _ _ _ _ => ()) u f) (fun _ _ _ => .junk) (fun _ _ _ _ _ => .junk) (fun _ _ _ _ _ => .junk) (fun _ _ _ _ _ => .junk) (fun _ _ => .junk) (fun _ _ _ _ _ _ => .junk) (fun _ _ _ _ => .junk) (fun _ _ _ => .junk) (fun _ _ _ => .junk) (fun _ _ _ => .junk) (fun _ => .junk) () (fun _ _ _ _ => ()) x f
def eB (x : A) (f : Bool → A) : A := A.rec (motive_1 := fun _ => (Bool → A) → A) (motive_2 := fun _ => Unit) (fun u f => Value.rec (motive_1 := fun _ => (Bool → A) → A) (motive_2 := fun _ => Unit) (motive_3 := fun _ => Unit) (fun b f => f b) (fun _ _ _ => .junk) (fun _ _ _ => .junk) (fun _ _ _ _ => .junk) (fun _ _ => .junk) (fun _ _ => .junk) (fun _ _ _ _ => .junk) (fun _ _ => .junk) (fun _ _ => .junk) (fun _ _ _ _ _ _ => .junk) (fun _ => .junk) (fun _ _ _ _ => .junk) (fun _ => .junk) (fun _ _ _ => .junk) (fun _ _ _ => .junk) (fun _ _ => ()) () (fun _ _ _ _ => ()) u f) (fun _ _ _ => .junk) (fun _ _ _ _ _ => .junk) (fun _ _ _ _ _ => .junk) (fun _ _ _ _ _ => .junk) (fun _ _ => .junk) (fun _ _ _ _ _ _ => .junk) (fun _ _ _ _ => .junk) (fun _ _ _ => .junk) (fun _ _ _ => .junk) (fun _ _ _ => .junk) (fun _ => .junk) () (fun _ _ _ _ => ()) x f
def eS (x : A) (f : ByteArray → A) : A := A.rec (motive_1 := fun _ => (ByteArray → A) → A) (motive_2 := fun _ => Unit) (fun u f => Value.rec (motive_1 := fun _ => (ByteArray → A) → A) (motive_2 := fun _ => Unit) (motive_3 := fun _ => Unit) (fun _ _ => .junk) (fun _ _ _ => .junk) (fun _ _ _ => .junk) (fun _ _ _ _ => .junk) (fun s f => f s) (fun _ _ => .junk) (fun _ _ _ _ => .junk) (fun _ _ => .junk) (fun _ _ => .junk) (fun _ _ _ _ _ _ => .junk) (fun _ => .junk) (fun _ _ _ _ => .junk) (fun _ => .junk) (fun _ _ _ => .junk) (fun _ _ _ => .junk) (fun _ _ => ()) () (fun _ _ _ _ => ()) u f) (fun _ _ _ => .junk) (fun _ _ _ _ _ => .junk) (fun _ _ _ _ _ => .junk) (fun _ _ _ _ _ => .junk) (fun _ _ => .junk) (fun _ _ _ _ _ _ => .junk) (fun _ _ _ _ => .junk) (fun _ _ _ => .junk) (fun _ _ _ => .junk) (fun _ _ _ => .junk) (fun _ => .junk) () (fun _ _ _ _ => ()) x f
def boolX (x : A) (a b : RX) : RX := A.rec (motive_1 := fun _ => RX → RX → RX) (motive_2 := fun _ => Unit) (fun u y z => Value.rec (motive_1 := fun _ => RX → RX → RX) (motive_2 := fun _ => Unit) (motive_3 := fun _ => Unit) (fun b y z => cond b y z) (fun _ _ _ _ => none) (fun _ _ _ _ => none) (fun _ _ _ _ _ => none) (fun _ _ _ => none) (fun _ _ _ => none) (fun _ _ _ _ _ => none) (fun _ _ _ => none) (fun _ _ _ => none) (fun _ _ _ _ _ _ _ => none) (fun _ _ => none) (fun _ _ _ _ _ => none) (fun _ _ => none) (fun _ _ _ _ => none) (fun _ _ _ _ => none) (fun _ _ => ()) () (fun _ _ _ _ => ()) u y z) (fun _ _ _ _ => none) (fun _ _ _ _ _ _ => none) (fun _ _ _ _ _ _ => none) (fun _ _ _ _ _ _ => none) (fun _ _ _ => none) (fun _ _ _ _ _ _ _ => none) (fun _ _ _ _ _ => none) (fun _ _ _ _ => none) (fun _ _ _ _ => none) (fun _ _ _ _ => none) (fun _ _ => none) () (fun _ _ _ _ => ()) x a b
/-- something known -/
def chkE (x : A) (K : A → RX) (e : RX) : RX := A.rec (motive_1 := fun _ => (A → RX) → RX → RX) (motive_2 := fun _ => Unit) (fun u K _ => K (.v u)) (fun b o K _ => K (.ptr b o)) (fun cs o ap _ K _ => K (.sp cs o ap)) (fun sz cs ap _ K _ => K (.sl sz cs ap)) (fun b o len cap K _ => K (.ms b o len cap)) (fun b K _ => K (.mp b)) (fun f first cap _ _ K _ => K (.fn f first cap)) (fun t x _ K _ => K (.ifc t x)) (fun cs _ K _ => K (.agg cs)) (fun vs _ K _ => K (.tup vs)) (fun id len K _ => K (.raw id len)) (fun _ e => e) () (fun _ _ _ _ => ()) x K e
def oneX (x : A) (y : RX) : RX := A.rec (motive_1 := fun _ => RX → RX) (motive_2 := fun _ => Unit) (fun _u y => y) (fun _b _o y => y) (fun _cs _o _ap _ y => y) (fun _sz _cs _ap _ y => y) (fun _b _o _len _cap y => y) (fun _b y => y) (fun _f _first _cap _ _ y => y) (fun _t _x _ y => y) (fun _ _ _ => none) (fun _ _ _ => none) (fun _id _len y => y) (fun _ => none) () (fun _ _ _ _ => ()) x y
def isOneF (x : A) : Bool := A.rec (motive_1 := fun _ => Bool) (motive_2 := fun _ => Unit) (fun _u => true) (fun _b _o => true) (fun _cs _o _ap _ => true) (fun _sz _cs _ap _ => true) (fun _b _o _len _cap => true) (fun _b => true) (fun _f _first _cap _ _ => true) (fun _t _x _ => true) (fun _ _ => false) (fun _ _ => false) (fun _id _len => true) (false) () (fun _ _ _ _ => ()) x
def ePtr (x : A) (f : Nat → Nat → RX) : RX := A.rec (motive_1 := fun _ => (Nat → Nat → RX) → RX) (motive_2 := fun _ => Unit) (fun _ _ => none) (fun b o f => f b o) (fun _ _ _ _ _ => none) (fun _ _ _ _ _ => none) (fun _ _ _ _ _ => none) (fun _ _ => none) (fun _ _ _ _ _ _ => none) (fun _ _ _ _ => none) (fun _ _ _ => none) (fun _ _ _ => none) (fun _ _ _ => none) (fun _ => none) () (fun _ _ _ _ => ()) x f
/-- the cells at an address -/
def eAddr (x : A) (σ : St) (f : List A → Nat → A) : A := A.rec (motive_1 := fun _ => St → (List A → Nat → A) → A) (motive_2 := fun _ => Unit) (fun _ _ _ => .junk) (fun b o σ f => cellsA σ b fun cs => f cs o) (fun cs o _ap _ _σ f => f cs o) (fun _ _ _ _ _ _ => .junk) (fun _ _ _ _ _ _ => .junk) (fun _ _ _ => .junk) (fun _ _ _ _ _ _ _ => .junk) (fun _ _ _ _ _ => .junk) (fun _ _ _ _ => .junk) (fun _ _ _ _ => .junk) (fun _ _ _ _ => .junk) (fun _ _ => .junk) () (fun _ _ _ _ => ()) x σ f
def fldA (off : Nat) (x : A) : A := A.rec (motive_1 := fun _ => Nat → A) (motive_2 := fun _ => Unit) (fun _ _ => .junk) (fun b o off => .ptr b (Nat.add o off)) (fun cs o _ap _ off => .sp cs (Nat.add o off) .no) (fun _ _ _ _ _ => .junk) (fun _ _ _ _ _ => .junk) (fun _ _ => .junk) (fun _ _ _ _ _ _ => .junk) (fun _ _ _ _ => .junk) (fun _ _ _ => .junk) (fun _ _ _ => .junk) (fun _ _ _ => .junk) (fun _ => .junk) () (fun _ _ _ _ => ()) x off
def nilA (x : A) : A := A.rec (motive_1 := fun _ => A) (motive_2 := fun _ => Unit) (fun _ => .junk) (fun b o => .ptr b o) (fun cs o ap _ => .sp cs o ap) (fun sz cs ap _ => .sl sz cs ap) (fun b o len cap => .ms b o len cap) (fun b => .mp b) (fun f first cap _ _ => fnA f first cap) (fun t x _ => .ifc t x) (fun cs _ => .agg cs) (fun vs _ => .tup vs) (fun id len => .raw id len) (.junk) () (fun _ _ _ _ => ()) x
def lenS' (x : A) : A := A.rec (motive_1 := fun _ => A) (motive_2 := fun _ => Unit) (fun _ => .junk) (fun _ _ => .junk) (fun _ _ _ _ => .junk) (fun sz cs _ap _ => vi .i64 (Int.ofNat (Nat.div cs.length sz))) (fun _b _o len _cap => vi .i64 (Int.ofNat len)) (fun _ => .junk) (fun _ _ _ _ _ => .junk) (fun _ _ _ => .junk) (fun _ _ => .junk) (fun _ _ => .junk) (fun _ _ => .junk) (.junk) () (fun _ _ _ _ => ()) x
def lenT' (x : A) : A := A.rec (motive_1 := fun _ => A) (motive_2 := fun _ => Unit) (fun u => Value.rec (motive_1 := fun _ => A) (motive_2 := fun _ => Unit) (motive_3 := fun _ => Unit) (fun _ => .junk) (fun _ _ => .junk) (fun _ _ => .junk) (fun _ _ _ => .junk) (fun s => vi .i64 (Int.ofNat (sizeN s))) (fun _ => .junk) (fun _ _ _ => .junk) (fun _ => .junk) (fun _ => .junk) (fun _ _ _ _ _ => .junk) (.junk) (fun _ _ _ => .junk) (.junk) (fun _ _ => .junk) (fun _ _ => .junk) (fun _ _ => ()) () (fun _ _ _ _ => ()) u) (fun _ _ => .junk) (fun _ _ _ _ => .junk) (fun _ _ _ _ => .junk) (fun _ _ _ _ => .junk) (fun _ => .junk) (fun _ _ _ _ _ => .junk) (fun _ _ _ => .junk) (fun _ _ => .junk) (fun _ _ => .junk) (fun _ _ => .junk) (.junk) () (fun _ _ _ _ => ()) x
def iaA (sz n : Nat) (x : A) : A := A.rec (motive_1 := fun _ => Nat → Nat → A) (motive_2 := fun _ => Unit) (fun _ _ _ => .junk) (fun _ _ _ _ => .junk) (fun _ _ _ _ _ _ => .junk) (fun sz cs _ap _ z n => cond (Nat.beq sz z) (cond (Nat.ble 1 z) (cond (Nat.ble (Nat.succ n) (Nat.div cs.length z)) (.sp cs (Nat.mul n z) .no) .junk) .junk) .junk) (fun b o len _cap z n => cond (Nat.ble (Nat.succ n) len) (.ptr b (Nat.add o (Nat.mul n z))) .junk) (fun _ _ _ => .junk) (fun _ _ _ _ _ _ _ => .junk) (fun _ _ _ _ _ => .junk) (fun _ _ _ _ => .junk) (fun _ _ _ _ => .junk) (fun _ _ _ _ => .junk) (fun _ _ => .junk) () (fun _ _ _ _ => ()) x sz n
def iapA (sz n : Nat) (x : A) : A := A.rec (motive_1 := fun _ => Nat → Nat → A) (motive_2 := fun _ => Unit) (fun _ _ _ => .junk) (fun b o z n => .ptr b (Nat.add o (Nat.mul n z))) (fun cs o _ap _ z n => .sp cs (Nat.add o (Nat.mul n z)) .no) (fun _ _ _ _ _ _ => .junk) (fun _ _ _ _ _ _ => .junk) (fun _ _ _ => .junk) (fun _ _ _ _ _ _ _ => .junk) (fun _ _ _ _ _ => .junk) (fun _ _ _ _ => .junk) (fun _ _ _ _ => .junk) (fun _ _ _ _ => .junk) (fun _ _ => .junk) () (fun _ _ _ _ => ()) x sz n
def extA (i : Nat) (x : A) : A := A.rec (motive_1 := fun _ => Nat → A) (motive_2 := fun _ => Unit) (fun _ _ => .junk) (fun _ _ _ => .junk) (fun _ _ _ _ _ => .junk) (fun _ _ _ _ _ => .junk) (fun _ _ _ _ _ => .junk) (fun _ _ => .junk) (fun _ _ _ _ _ _ => .junk) (fun _ _ _ _ => .junk) (fun _ _ _ => .junk) (fun vs _ i => nthA vs i) (fun _ _ _ => .junk) (fun _ => .junk) () (fun _ _ _ _ => ()) x i
def grdA (w : Bool) (x y : A) : A := A.rec (motive_1 := fun _ => Bool → A → A) (motive_2 := fun _ => Unit) (fun u w y => Value.rec (motive_1 := fun _ => Bool → A → A) (motive_2 := fun _ => Unit) (motive_3 := fun _ => Unit) (fun b w y => cond (Bool.rec (not b) b w) y und) (fun _ _ _ _ => und) (fun _ _ _ _ => und) (fun _ _ _ _ _ => und) (fun _ _ _ => und) (fun _ _ _ => und) (fun _ _ _ _ _ => und) (fun _ _ _ => und) (fun _ _ _ => und) (fun _ _ _ _ _ _ _ => und) (fun _ _ => und) (fun _ _ _ _ _ => und) (fun _ _ => und) (fun _ _ _ _ => und) (fun _ _ _ _ => und) (fun _ _ => ()) () (fun _ _ _ _ => ()) u w y) (fun _ _ _ _ => und) (fun _ _ _ _ _ _ => und) (fun _ _ _ _ _ _ => und) (fun _ _ _ _ _ _ => und) (fun _ _ _ => und) (fun _ _ _ _ _ _ _ => und) (fun _ _ _ _ _ => und) (fun _ _ _ _ => und) (fun _ _ _ _ => und) (fun _ _ _ _ => und) (fun _w _y => .junk) () (fun _ _ _ _ => ()) x w y
def fldV (off : Nat) (x : A) : A := A.rec (motive_1 := fun _ => Nat → A) (motive_2 := fun _ => Unit) (fun _ _ => .junk) (fun _ _ _ => .junk) (fun _ _ _ _ _ => .junk) (fun _ _ _ _ _ => .junk) (fun _ _ _ _ _ => .junk) (fun _ _ => .junk) (fun _ _ _ _ _ _ => .junk) (fun _ _ _ _ => .junk) (fun cs _ off => nthA cs off) (fun _ _ _ => .junk) (fun _ _ _ => .junk) (fun _ => .junk) () (fun _ _ _ _ => ()) x off
inductive Src where
  | t (i j : D16)
  | l (k : Nat)
  | c (x : A)
def get (s : Src) (ws : List A) (φ : FF) : A := Src.rec (motive := fun _ => List A → FF → A) (fun i j _ φ => sel2 j (sel1 i φ)) (fun k ws _ => nthA ws k) (fun x _ _ => x) s ws φ
def slt (n : Nat) : Src := .t (dig (Nat.land n 15)) (dig (Nat.shiftRight n 4))
def setF (s : Src) (x : A) (φ : FF) : FF := Src.rec (motive := fun _ => A → FF → FF) (fun i j x φ => set1 i φ (set2 j (sel1 i φ) x)) (fun _ _ φ => φ) (fun _ _ φ => φ) s x φ
def kn (k : IntKind) : Nat := IntKind.rec 0 1 2 3 4 5 6 7 k
/-- the greatest number of a kind -/
def maxN (k : IntKind) : Nat := IntKind.rec 127 32767 2147483647 9223372036854775807 255 65535 4294967295 18446744073709551615 k
def sgn (k : IntKind) : Bool := IntKind.rec true true true true false false false false k
def wrapP (k : IntKind) (n : Nat) : A := cond (Nat.ble n (maxN k)) (.v (.int k (.ofNat n))) (.v (.int k (IntKind.wrap k (.ofNat n))))
def wrapM (k : IntKind) (n : Nat) : A := cond (sgn k) (cond (Nat.ble n (maxN k)) (.v (.int k (.negSucc n))) (.v (.int k (IntKind.wrap k (.negSucc n))))) (.v (.int k (IntKind.wrap k (.negSucc n))))
def wrapA (k : IntKind) (z : Int) : A := Int.rec (motive := fun _ => IntKind → A) (fun n k => wrapP k n) (fun n k => wrapM k n) z k
/-- two numbers: by their signs -/
def nats (x y : Int) (f : Nat → Nat → A) (e : A) : A := Int.rec (motive := fun _ => Int → (Nat → Nat → A) → A → A) (fun m y f e => Int.rec (motive := fun _ => Nat → (Nat → Nat → A) → A → A) (fun n m f _ => f m n) (fun _ _ _ e => e) y m f e) (fun _ _ _ e => e) x y f e
def leI (x y : Int) : Bool := Int.rec (motive := fun _ => Int → Bool) (fun m y => Int.rec (motive := fun _ => Nat → Bool) (fun n m => Nat.ble m n) (fun _ _ => false) y m) (fun m y => Int.rec (motive := fun _ => Nat → Bool) (fun _ _ => true) (fun n m => Nat.ble n m) y m) x y
def eqI (x y : Int) : Bool := Int.rec (motive := fun _ => Int → Bool) (fun m y => Int.rec (motive := fun _ => Nat → Bool) (fun n m => Nat.beq m n) (fun _ _ => false) y m) (fun m y => Int.rec (motive := fun _ => Nat → Bool) (fun _ _ => false) (fun n m => Nat.beq m n) y m) x y
def tt : A := .v (.bool true)
def ff : A := .v (.bool false)
inductive BO where
  | add | sub | mul | quo | rem | and | or | xor | eq | ne | lt | le | gt | ge | shl | shr
def addG (k : IntKind) (x y : Int) : A := nats x y (fun m n => wrapP k (Nat.add m n)) (wrapA k (Int.add x y))
def subG (k : IntKind) (x y : Int) : A := nats x y (fun m n => cond (Nat.ble n m) (wrapP k (Nat.sub m n)) (wrapM k (Nat.pred (Nat.sub n m)))) (wrapA k (Int.sub x y))
def mulG (k : IntKind) (x y : Int) : A := nats x y (fun m n => wrapP k (Nat.mul m n)) (wrapA k (Int.mul x y))
def quoG (k : IntKind) (x y : Int) : A := nats x y (fun m n => cond (Nat.ble 1 n) (wrapP k (Nat.div m n)) .junk) .junk
def remG (k : IntKind) (x y : Int) : A := nats x y (fun m n => cond (Nat.ble 1 n) (.v (.int k (.ofNat (Nat.mod m n)))) .junk) .junk
def bitG (f : Nat → Nat → Nat) (k : IntKind) (x y : Int) : A := nats x y (fun m n => cond (Nat.ble m (maxN k)) (cond (Nat.ble n (maxN k)) (.v (.int k (.ofNat (f m n)))) .junk) .junk) .junk
def eqG (_ : IntKind) (x y : Int) : A := cond (eqI x y) tt ff
def neG (_ : IntKind) (x y : Int) : A := cond (eqI x y) ff tt
def ltG (_ : IntKind) (x y : Int) : A := cond (leI y x) ff tt
def leG (_ : IntKind) (x y : Int) : A := cond (leI x y) tt ff
def gtG (_ : IntKind) (x y : Int) : A := cond (leI x y) ff tt
def geG (_ : IntKind) (x y : Int) : A := cond (leI y x) tt ff
def bitsN (k : IntKind) : Nat := IntKind.rec 8 16 32 64 8 16 32 64 k
def shlG (k : IntKind) (x y : Int) : A := nats x y (fun m n => cond (Nat.ble n (bitsN k)) (wrapP k (Nat.shiftLeft m n)) .junk) .junk
def shrG (k : IntKind) (x y : Int) : A := nats x y (fun m n => cond (Nat.ble n (bitsN k)) (.v (.int k (.ofNat (Nat.shiftRight m n)))) .junk) .junk
def binG (b : BO) : IntKind → Int → Int → A := BO.rec (motive := fun _ => IntKind → Int → Int → A) addG subG mulG quoG remG (bitG Nat.land) (bitG Nat.lor) (bitG Nat.xor) eqG neG ltG leG gtG geG shlG shrG b
def binA (b : BO) (x y : A) : A := eI x fun k n => eI y fun k' m => cond (Nat.beq (kn k) (kn k')) (binG b k n m) .junk
def shA (b : BO) (x y : A) : A := eI x fun k n => eI y fun _ m => binG b k n m
def notA (x : A) : A := eB x fun b => cond b ff tt
def ixsA (x i : A) : A := eI i fun _ z => nats z 0 (fun n _ => eS x fun s => cond (Nat.ble (Nat.succ n) (sizeN s)) (vi .u8 (.ofNat (byteN s n))) .junk) .junk
def subsA (x l h : A) : A := eS x fun s => eI l fun _ l => eI h fun _ h => nats l h (fun l h => cond (Nat.ble h (sizeN s)) (cond (Nat.ble l h) (bytesG (packN s) (Nat.sub h l) (Nat.mul l 8) fun bs => .v (.string ⟨⟨bs⟩⟩)) .junk) .junk) .junk
def eqsA (w : Bool) (x y : A) : A := eS x fun s => eS y fun t => cond (Nat.beq (sizeN s) (sizeN t)) (cond (Nat.beq (packN s) (packN t)) (cond w ff tt) (cond w tt ff)) (cond w tt ff)
/-- operations that ask, and change nothing -/
inductive FP where
  | mv (x : Src)
  | bin (b : BO) (x y : Src)
  | sh (b : BO) (x y : Src)
  | not (x : Src)
  | ld (x : Src)
  | ldA (n : Nat) (x : Src)
  | fld (off : Nat) (x : Src)
  | nilc (x : Src)
  | len (x : Src)
  | lent (x : Src)
  | ia (sz : Nat) (x i : Src)
  | iap (sz n : Nat) (x i : Src)
  | ixs (x i : Src)
  | pick (c a b : Src)
  | ext (i : Nat) (x : Src)
  | cvt (k : IntKind) (x : Src)
  | subs (x lo hi : Src)
  | fldv (off : Nat) (x : Src)
  | eqs (w : Bool) (x y : Src)
  | grd (g : Src) (w : Bool) (e : FP)
abbrev EP := List A → FF → St → A
def evP (e : FP) : EP := FP.rec (motive := fun _ => EP)
  (fun x ws φ _ => get x ws φ)
  (fun b x y ws φ _ => binA b (get x ws φ) (get y ws φ))
  (fun b x y ws φ _ => shA b (get x ws φ) (get y ws φ))
  (fun x ws φ _ => notA (get x ws φ))
  (fun x ws φ σ => eAddr (get x ws φ) σ nthA)
  (fun n x ws φ σ => eAddr (get x ws φ) σ fun cs o => cond (Nat.ble (Nat.add o n) cs.length) (.agg ((cs.drop o).take n)) .junk)
  (fun off x ws φ _ => fldA off (get x ws φ))
  (fun x ws φ _ => nilA (get x ws φ))
  (fun x ws φ _ => lenS' (get x ws φ))
  (fun x ws φ _ => lenT' (get x ws φ))
  (fun sz x i ws φ _ => eI (get i ws φ) fun _ z => nats z 0 (fun n _ => iaA sz n (get x ws φ)) .junk)
  (fun sz len x i ws φ _ => eI (get i ws φ) fun _ z => nats z 0 (fun n _ => cond (Nat.ble (Nat.succ n) len) (iapA sz n (get x ws φ)) .junk) .junk)
  (fun x i ws φ _ => ixsA (get x ws φ) (get i ws φ))
  (fun c a b ws φ _ => eB (get c ws φ) fun t => cond t (get a ws φ) (get b ws φ))
  (fun i x ws φ _ => extA i (get x ws φ))
  (fun k x ws φ _ => eI (get x ws φ) fun _ z => wrapA k z)
  (fun x lo hi ws φ _ => subsA (get x ws φ) (get lo ws φ) (get hi ws φ))
  (fun off x ws φ _ => fldV off (get x ws φ))
  (fun w x y ws φ _ => eqsA w (get x ws φ) (get y ws φ))
  (fun g w _ ih ws φ σ => grdA w (get g ws φ) (ih ws φ σ)) e
inductive FX where
  | st (x y : Src)
  | call (f : FuncId) (xs : List Src)
  | callv (x : Src) (xs : List Src)
  | box (e : TypeId) (x : Src)
  | alloc (z : List A) (e : TypeId)
  | gen (o : Oper) (xs : List (Tmp × Src))
  | grd (g : Src) (w : Bool) (o : FX)
inductive FL where
  | nil
  | p (e : FP) (g : Option FX) (r : FL)
  | pw (e : FP) (s : Src) (g : Option FX) (r : FL)
  | x (o : FX) (r : FL)
  | xw (o : FX) (s : Src) (r : FL)
inductive FC where
  | skip
  | ops (l : FL)
  | opsO (l : FL)
  | slow (d : Bool) (n : Nat) (ops : Array Oper) (L : List Nat)
  | seq (a b : FC)
  | cond (x : Src) (a b : FC)
  | block (id : Nat) (a : FC)
  | loop (a : FC)
  | exit (id : Nat)
  | ret
  | bad

-- lists and blocks
def listSet (l : List A) (n : Nat) (x : A) : List A :=
  Nat.rec (motive := fun _ => List A → A → List A) (fun l x => List.rec (motive := fun _ => A → List A) (fun _ => []) (fun _ r _ x => x :: r) l x) (fun _ ih l x => List.rec (motive := fun _ => (List A → A → List A) → A → List A) (fun _ _ => []) (fun a r _ ih x => a :: ih r x) l ih x) n l x
def ltLen (l : List A) (n : Nat) : Bool := Nat.rec (motive := fun _ => List A → Bool) (fun l => List.rec false (fun _ _ _ => true) l) (fun _ ih l => List.rec false (fun _ r _ => ih r) l) n l
def trSet (x : Option Blk) (k : Nat) : Tr Blk → Nat → Tr Blk :=
  Nat.rec (motive := fun _ => Tr Blk → Nat → Tr Blk) (fun t _ => t)
    (fun _ ih t n => Tr.rec (motive := fun _ => Nat → Tr Blk)
      (fun n => Nat.rec (.node .nil x .nil) (fun m _ => cond (Nat.beq (Nat.land m 1) 0) (.node (ih .nil (Nat.shiftRight m 1)) none .nil) (.node .nil none (ih .nil (Nat.shiftRight m 1)))) n)
      (fun l v r _ _ n => Nat.rec (.node l x r) (fun m _ => cond (Nat.beq (Nat.land m 1) 0) (.node (ih l (Nat.shiftRight m 1)) v r) (.node l v (ih r (Nat.shiftRight m 1)))) n) t n) k
def pushF (b : Blk) (σ : St) (K : KA) : RX := K (.ptr σ.next 0) ⟨trSet (some b) (Nat.succ σ.next) σ.blks σ.next, Nat.succ σ.next, σ.toks, σ.nextT⟩

abbrev Stp := List A → FF → St → KA → RX
def chkL (xs : List Src) (ws : List A) (φ : FF) (K : List A → RX) : RX := List.rec (motive := fun _ => List A → FF → (List A → RX) → RX) (fun _ _ K => K []) (fun s _ ih ws φ K => chkE (get s ws φ) (fun a => ih ws φ fun l => K (a :: l)) none) xs ws φ K
def chkP (xs : List (Tmp × Src)) (ws : List A) (φ : FF) (K : List (Tmp × A) → RX) : RX := List.rec (motive := fun _ => List A → FF → (List (Tmp × A) → RX) → RX) (fun _ _ K => K []) (fun s _ ih ws φ K => chkE (get s.2 ws φ) (fun a => ih ws φ fun l => K ((s.1, a) :: l)) none) xs ws φ K
def rhoF (C : Cfg) (l : List (Tmp × A)) : Operand → Option A
  | .tmp t => l.lookup t
  | .const v => ofVal v
  | .global g => C.glob g
  | .func f => some (.fn (.func f) [] [])
def doCall (callF : CallF) (f : FuncId) (args : List A) (φ : FF) (σ : St) (K : KA) : RX := match callF f args σ with
  | some (.ret x, σ') => K x σ'
  | some (.pan x, σ') => some (.pan x, φ, σ')
  | none => none
def storeC (x : Option Blk) (b o : Nat) (v : A) (σ : St) (K : KA) : RX := Option.rec (motive := fun _ => RX) none (fun x => Blk.rec (motive := fun _ => RX) (fun cs e => cond (ltLen cs o) (K und ⟨trSet (some (.cells (listSet cs o v) e)) (Nat.succ b) σ.blks b, σ.next, σ.toks, σ.nextT⟩) none) (fun _ _ => none) (fun _ _ => none) (fun _ _ _ _ => none) x) x
def sSt (x y : Src) : Stp := fun ws φ σ K => ePtr (get x ws φ) fun b o => chkE (get y ws φ) (fun v => oneX v (storeC (trGet σ.blks b) b o v σ K)) none
def sCall (callF : CallF) (f : FuncId) (xs : List Src) : Stp := fun ws φ σ K => chkL xs ws φ fun l => doCall callF f l φ σ K
/-- a function that is called as it stands -/
def callable (C : Cfg) (f : FuncId) : Bool := match C.P.funcs[f]? with
  | some fn => !(fn.name == "runtime.NumGoroutine") && fn.body.isSome
  | none => false
def sCallv (C : Cfg) (callF : CallF) (x : Src) (xs : List Src) : Stp := fun ws φ σ K => match get x ws φ with
  | .fn (.func g) a c => cond (callable C g) (chkL xs ws φ fun l => doCall callF g (a ++ l ++ c) φ σ K) none
  | _ => none
def allOneF (l : List A) : Bool := List.rec true (fun a _ ih => cond (isOneF a) ih false) l
def sBox (e : TypeId) (x : Src) : Stp := fun ws φ σ K => chkE (get x ws φ) (fun a => match a with
  | .agg cs => cond (allOneF cs) (pushF (.cells cs e) σ K) none
  | .tup _ => none
  | a => pushF (.cells [a] e) σ K) none
def sAlloc (z : List A) (e : TypeId) : Stp := fun _ _ σ K => pushF (.cells z e) σ K
def dsSlot : Src := .t .kp .kp
def sGen (C : Cfg) (callF : CallF) (o : Oper) (xs : List (Tmp × Src)) : Stp := fun ws φ σ K => chkP xs ws φ fun l => match op C (rhoF C l) o σ with
      | some (.val x σ') => K x σ'
      | some (.skip σ') => K und σ'
      | some (.call f args σ') => doCall callF f args φ σ' K
      | some (.pan x σ') => some (.pan x, φ, σ')
      | _ => none
def sGrd (g : Src) (w : Bool) (_ : FX) (ih : Stp) : Stp := fun ws φ σ K => match get g ws φ with
    | .v (.bool b) => cond (Bool.rec (!b) b w) (ih ws φ σ K) (K und σ)
    | .junk => none
    | _ => K und σ
def step (C : Cfg) (callF : CallF) (o : FX) : Stp := FX.rec (motive := fun _ => Stp) sSt (sCall callF) (sCallv C callF) sBox sAlloc (sGen C callF) sGrd o
def slowP (C : Cfg) (callF : CallF) (g : Option FX) (ws : List A) (φ : FF) (σ : St) (K : KA) : RX := match g with
  | some o => step C callF o ws φ σ K
  | none => none
def runL (C : Cfg) (callF : CallF) (l : FL) : List A → FF → St → RX := FL.rec (motive := fun _ => List A → FF → St → RX) (fun _ φ σ => some (.normal, φ, σ))
  (fun e g _ ih ws φ σ => chkE (evP e ws φ σ) (fun x => ih (x :: ws) φ σ) (slowP C callF g ws φ σ fun x σ' => ih (x :: ws) φ σ'))
  (fun e s g _ ih ws φ σ => chkE (evP e ws φ σ) (fun x => ih (x :: ws) (setF s x φ) σ) (slowP C callF g ws φ σ fun x σ' => ih (x :: ws) (setF s x φ) σ'))
  (fun o _ ih ws φ σ => step C callF o ws φ σ fun x σ' => ih (x :: ws) φ σ')
  (fun o s _ ih ws φ σ => step C callF o ws φ σ fun x σ' => ih (x :: ws) (setF s x φ) σ') l
def afterN (r : RX) (K : FF → St → RX) : RX := match r with
  | some (.normal, φ, σ) => K φ σ
  | r => r
def afterB (r : RX) (id : Nat) : RX := match r with
  | some (.exit j, φ, σ) => cond (Nat.beq j id) (some (.normal, φ, σ)) (some (.exit j, φ, σ))
  | r => r
-- a region by the machine itself
def getN (φ : FF) (t : Nat) : Option A := cond (Nat.ble (Nat.succ t) 255) (let x := get (slt t) [] φ; if isJunk x then none else some x) none
def dsOf (φ : FF) : List (FuncId × List A) := match get dsSlot [] φ with
  | .tup l => l.filterMap fun | .fn (.func f) a _ => some (f, a) | _ => none
  | _ => []
def dsA (l : List (FuncId × List A)) : A := match l with
  | [] => .junk
  | l => .tup (l.map fun x => .fn (.func x.1) x.2 [])
def dsSet (l : List (FuncId × List A)) (φ : FF) : FF := setF dsSlot (dsA l) φ
def frOf (φ : FF) (l : List Nat) : Fr := ⟨l.foldr (fun t T => match getN φ t with | some a => T.set t a | none => T) .nil, dsOf φ⟩
def backF (ψ : Fr) (l : List Nat) (φ : FF) : FF := dsSet ψ.ds (l.foldl (fun φ t => setF (slt t) ((ψ.s.get t).getD .junk) φ) φ)
def backR (r : Option (X × Fr × St)) (l : List Nat) (φ : FF) : RX := match r with
  | some (x, ψ, σ') => some (x, backF ψ l φ, σ')
  | none => none
def sSlow (C : Cfg) (callF : CallF) (d : Bool) (n : Nat) (ops : Array Oper) (L : List Nat) (φ : FF) (σ : St) : RX :=
  backR (if d then runOpen C callF n ops (frOf φ L) σ else runOps C callF n ops ops.toList (frOf φ L) σ) L φ
/-- a region of open order: no panic -/
def noPan (r : RX) : RX := match r with
  | some (.pan _, _, _) => none
  | r => r
def frun (C : Cfg) (callF : CallF) : Nat → FC → FF → St → RX := Nat.rec (motive := fun _ => FC → FF → St → RX) (fun _ _ _ => none) fun _ ih c φ σ =>
  FC.rec (motive := fun _ => (FC → FF → St → RX) → FF → St → RX) (fun _ φ σ => some (.normal, φ, σ)) (fun l _ φ σ => runL C callF l [] φ σ) (fun l _ φ σ => noPan (runL C callF l [] φ σ)) (fun d n ops L _ φ σ => sSlow C callF d n ops L φ σ) (fun a b _ _ ih φ σ => afterN (ih a φ σ) (ih b))
    (fun x a b _ _ ih φ σ => boolX (get x [] φ) (ih a φ σ) (ih b φ σ)) (fun id a _ ih φ σ => afterB (ih a φ σ) id) (fun a _ ih φ σ => afterN (ih a φ σ) (ih (.loop a))) (fun id _ φ σ => some (.exit id, φ, σ)) (fun _ φ σ => some (.ret, φ, σ)) (fun _ _ _ => none) c ih φ σ

-- the code made ready
inductive AL where
  | loc (i : Nat)
  | con (x : A)
def slotS (t : Nat) : Src := if t < 255 then slt t else .c .junk
def cSrc (C : Cfg) (al : List (Tmp × AL)) (n : Nat) : Operand → Src
  | .tmp t => match al.lookup t with
    | some (.loc i) => .l (n - 1 - i)
    | some (.con a) => .c a
    | none => slotS t
  | .const v => match ofVal v with
    | some a => .c a
    | none => .c .junk
  | .global g => match C.glob g with
    | some a => .c a
    | none => .c .junk
  | .func f => .c (.fn (.func f) [] [])
def tmpsO (o : Oper) : List Tmp := o.op.operands.toList.filterMap fun | .tmp t => some t | _ => none
def boOf : BinOp → Option BO
  | .add => some .add | .sub => some .sub | .mul => some .mul | .quo => some .quo | .rem => some .rem | .and => some .and | .or => some .or | .xor => some .xor
  | .eql => some .eq | .neq => some .ne | .lss => some .lt | .leq => some .le | .gtr => some .gt | .geq => some .ge | _ => none
/-- an operation made ready -/
inductive CO where
  | p (e : FP)
  | x (o : FX)
def cOp (C : Cfg) (S : Operand → Src) (o : Oper) (xs : List (Tmp × Src)) : CO :=
  let g : CO := .x (.gen o xs)
  match o.op with
    | .move x | .assign x => .p (.mv (S x))
    | .binOp b t x y _ => match b with
      | .shl => .p (.sh .shl (S x) (S y))
      | .shr => .p (.sh .shr (S x) (S y))
      | _ => match C.P.underlying t, boOf b with
        | some (.int _), some b => .p (.bin b (S x) (S y))
        | some .string, some .eq => .p (.eqs false (S x) (S y))
        | some .string, some .ne => .p (.eqs true (S x) (S y))
        | _, _ => g
    | .unOp .not _ x => .p (.not (S x))
    | .load t x => match isAggT C.P t, C.P.info? t with
      | some false, some _ => .p (.ld (S x))
      | some true, some i => .p (.ldA i.size (S x))
      | _, _ => g
    | .store t a x => match isAggT C.P t, sizeOfT C.P t with
      | some false, some 1 => .x (.st (S a) (S x))
      | _, _ => g
    | .fieldAddr s x f => match C.P.underlying s with
      | some (.struct fs) => match fs[f]? with
        | some fd => match sizeOfT C.P fd.type with
          | some n => if n = 0 then g else .p (.fld fd.offset (S x))
          | none => g
        | none => g
      | _ => g
    | .field s x f => match C.P.underlying s with
      | some (.struct fs) => match fs[f]? with
        | some fd => match isAggT C.P fd.type with
          | some false => .p (.fldv fd.offset (S x))
          | _ => g
        | none => g
      | _ => g
    | .nilCheck x => .p (.nilc (S x))
    | .indexAddr t x i => match C.P.underlying t with
      | some (.slice e) => match sizeOfT C.P e with
        | some sz => .p (.ia sz (S x) (S i))
        | none => g
      | some (.array n e) => match sizeOfT C.P e with
        | some sz => .p (.iap sz n (S x) (S i))
        | none => g
      | _ => g
    | .index t x i => match C.P.underlying t with
      | some .string => .p (.ixs (S x) (S i))
      | _ => g
    | .pick c a b => .p (.pick (S c) (S a) (S b))
    | .box e x => .x (.box e (S x))
    | .alloc e => match zeroOf C.P e with
      | some z => .x (.alloc z e)
      | none => g
    | .extract x i => .p (.ext i (S x))
    | .convert s d x => match C.P.underlying s, C.P.underlying d with
      | some (.int _), some (.int k) => .p (.cvt k (S x))
      | _, _ => g
    | .slice t x (some lo) (some hi) none => match C.P.underlying t with
      | some .string => .p (.subs (S x) (S lo) (S hi))
      | _ => g
    | .call c => match c.callee with
      | .value (.func f) => if callable C f then .x (.call f (c.args.toList.map S)) else g
      | .value f => .x (.callv (S f) (c.args.toList.map S))
      | .builtin .len => match c.args.toList, c.argTypes[0]? with
        | [x], some t => match C.P.underlying t with
          | some (.slice _) => .p (.len (S x))
          | some .string => .p (.lent (S x))
          | _ => g
        | _, _ => g
      | _ => g
    | _ => g
def isConst (C : Cfg) : Operand → Option A
  | .const v => ofVal v
  | .global g => C.glob g
  | .func f => some (.fn (.func f) [] [])
  | .tmp _ => none
def mkL (c : CO) (g : Option FX) (w : Option Src) (r : FL) : FL := match c, w with
  | .p e, none => .p e g r
  | .p e, some s => .pw e s g r
  | .x o, none => .x o r
  | .x o, some s => .xw o s r
def grdC (g : Src) (w : Bool) : CO → CO
  | .p e => .p (.grd g w e)
  | .x o => .x (.grd g w o)
def failL : FL := .p (.ext 0 (.c .junk)) none .nil
def alD (o : Oper) (al : List (Tmp × AL)) (x : AL) : List (Tmp × AL) := match o.dst with
  | some d => (d, x) :: al
  | none => al
def dstOk (nt : Nat) (o : Oper) : Bool := match o.dst with
  | some d => Nat.blt d nt
  | none => true
/-- a move that need not be made -/
def skipMv (C : Cfg) (al : List (Tmp × AL)) (o : Oper) (w : Option Src) : Option AL := match o.op, o.dst, w with
  | .move x, some _, none => match x with
    | .tmp t => al.lookup t
    | x => match isConst C x with
      | some a => some (.con a)
      | none => none
  | _, _, _ => none
def cL (C : Cfg) (live nt : Nat) (ops : Array Oper) : List Oper → List (Tmp × AL) → Nat → FL
  | [], _, _ => .nil
  | o :: r, al, n => if dstOk nt o then
    let S := cSrc C al n
    let xs := (tmpsO o).map fun t => (t, S (.tmp t))
    let w : Option Src := match o.dst with
      | some d => if live.testBit d then some (slt d) else none
      | none => none
    match o.guard with
    | some (j, want) => match (ops[j]?).bind (·.dst) with
      | some t => mkL (grdC (S (.tmp t)) want (cOp C S o xs)) (some (.grd (S (.tmp t)) want (.gen o xs))) w (cL C live nt ops r (alD o al (.loc n)) (n + 1))
      | none => failL
    | none => match skipMv C al o w with
      | some a => cL C live nt ops r (alD o al a) n
      | none => mkL (cOp C S o xs) (some (.gen o xs)) w (cL C live nt ops r (alD o al (.loc n)) (n + 1))
    else failL
/-- may a region of open order be run in its text's order, by its text? -/
def noAsk (o : Oper) : Bool := match o.op with
  | .move _ | .assign _ | .pick .. | .build .. | .buildSlice .. | .nilCheck _ | .unOp .. | .binOp .. | .makeInterface .. | .makeFunc .. | .fieldAddr .. | .field .. | .indexAddr .. | .index .. | .typeAssert .. | .extract .. => true
  | _ => false
def tmpsOf (ops : Array Oper) : List Nat := ops.toList.flatMap fun o => o.op.operands.toList.filterMap fun | .tmp t => some t | _ => none
def dstsOf (ops : Array Oper) : List Nat := ops.toList.filterMap fun o => o.dst
def sliceOk (C : Cfg) (o : Oper) : Bool := match o.op with
  | .slice t _ _ _ _ => match C.P.underlying t with
    | some .string => true
    | _ => false
  | _ => true
def calm (C : Cfg) (ops : Array Oper) (bef : Array Nat) : Bool := (List.range ops.size).all fun j => match ops[j]? with
  | none => false
  | some o => sliceOk C o && (noAsk o || !isQuiet C o || (List.range ops.size).all fun i => match ops[i]? with
    | none => false
    | some p => isQuiet C p || (if i < j then bfr bef i j else bfr bef j i))
def uses (o : Oper) (ops : Array Oper) : List Tmp := tmpsO o ++ (match o.guard with | some (j, _) => ((ops[j]?).bind (·.dst)).toList | none => [])
def bitOf (t : Nat) : Nat := Nat.shiftLeft 1 t
def exposed (ops : Array Oper) : Nat := (ops.toList.foldl (fun (s : Nat × Nat) o => (s.1 ||| (uses o ops).foldl (fun m t => if s.2.testBit t then m else m ||| bitOf t) 0, match o.dst with | some d => s.2 ||| bitOf d | none => s.2)) (0, 0)).1
def fastR (C : Cfg) (ops : Array Oper) (d : Bool) : Bool := (ops.all fun o => match o.op with | .defer _ => false | _ => true) && (!d || (drawOk C ops (Region.before ops) && calm C ops (Region.before ops)))
def liveOf (C : Cfg) : Code → Nat
  | .region _ ops d => if fastR C ops d then exposed ops else ((tmpsOf ops ++ dstsOf ops).foldl (fun m t => m ||| bitOf t) 0)
  | .seq a b => liveOf C a ||| liveOf C b
  | .cond x a b => (match x with | .tmp t => bitOf t | _ => 0) ||| liveOf C a ||| liveOf C b
  | .block _ a => liveOf C a
  | .loop a => liveOf C a
  | _ => 0
def tb (m i : Nat) : Bool := Nat.beq (Nat.land (Nat.shiftRight m i) 1) 1
def comp (C : Cfg) (n : Nat) (live fast : Nat) : Code → FC
  | .skip => .skip
  | .region i ops d => cond (tb fast i) (cond d (.opsO (cL C live n ops ops.toList [] 0)) (.ops (cL C live n ops ops.toList [] 0))) (.slow d n ops ((List.range 255).filter live.testBit))
  | .seq a b => .seq (comp C n live fast a) (comp C n live fast b)
  | .cond x a b => .cond (cSrc C [] 0 x) (comp C n live fast a) (comp C n live fast b)
  | .block id a => .block id (comp C n live fast a)
  | .loop a => .loop (comp C n live fast a)
  | .exit id => .exit id
  | .ret => .ret
  | _ => .bad
/-- are the regions that are said to be fast ones so? -/
def regsOk (C : Cfg) (fast : Nat) : Code → Bool
  | .region i ops d => cond (tb fast i) (fastR C ops d) true
  | .seq a b => regsOk C fast a && regsOk C fast b
  | .cond _ a b => regsOk C fast a && regsOk C fast b
  | .block _ a => regsOk C fast a
  | .loop a => regsOk C fast a
  | _ => true
/-- for each function: the slots that are asked for, the regions that are fast -/
abbrev Orc := FuncId → Option (Nat × Nat)
def orcL (l : List (Nat × Nat × Nat)) : Orc := fun f => List.rec (motive := fun _ => Option (Nat × Nat)) none (fun e _ ih => cond (Nat.beq e.1 f) (some e.2) ih) l
def orcChk (C : Cfg) (l : List (Nat × Nat × Nat)) : Bool := l.all fun e => match C.P.funcs[e.1]? with
  | some fn => match fn.body with
    | some c => regsOk C e.2.2 c
    | none => true
  | none => true
def setArgs (n : Nat) (l : List A) (φ : FF) : FF := match l with
  | [] => φ
  | a :: r => setArgs (n + 1) r (setF (slt n) a φ)
def resF (C : Cfg) (φ : FF) (σ : St) : List ResultVar → Option (List A)
  | [] => some []
  | .tmp t :: r => match getN φ t, resF C φ σ r with
    | some a, some l => some (a :: l)
    | _, _ => none
  | .cell a t :: r => match getN φ a with
    | some p => match loadOp C.P t p σ, resF C φ σ r with
      | some x, some l => some (x :: l)
      | _, _ => none
    | none => none
def resMask (l : List ResultVar) : Nat := l.foldl (fun m r => m ||| bitOf (match r with | .tmp t => t | .cell a _ => a)) 0
structure FFun where
  code : FC
  res : List ResultVar
  np : Nat
def lowBits (n : Nat) : Nat := Nat.shiftLeft 1 n - 1
def cBody (C : Cfg) (Q : Orc) (f : FuncId) : Option FFun := match Q f, C.P.funcs[f]? with
  | some (live, fast), some fn => match fn.body with
    | some c => if 255 < fn.ntmps ∨ fn.ntmps < fn.params.size + fn.nfree then none else some ⟨comp C fn.ntmps (live ||| lowBits (fn.params.size + fn.nfree)) fast c, fn.results.toList, fn.params.size + fn.nfree⟩
    | none => none
  | _, _ => none
def retF (C : Cfg) (φ : FF) (σ : St) (rs : List ResultVar) : Option (Out × St) := match resF C φ σ rs with
  | some l => some (.ret (oneOrTup l), σ)
  | none => none
/-- a call, the calls in it being given -/
def fcall1 (C : Cfg) (Q : Orc) (ih : CallF) (k : Nat) (f : FuncId) (args : List A) (σ : St) : Option (Out × St) :=
  match C.prim f with
    | some g => match g args σ with
      | some (x, σ') => some (.ret x, σ')
      | none => none
    | none => match cBody C Q f with
        | some ⟨c, rs, np⟩ => cond (Nat.ble args.length np) (match frun C ih (k + 1) c (setArgs 0 args ff0) σ with
            | some (.normal, φ, σ') | some (.ret, φ, σ') => match leave C ih (k + 1) (dsOf φ) σ' none with
              | some (σ'', none) => retF C φ σ'' rs
              | _ => none
            | some (.pan x, φ, σ') => match leave C ih (k + 1) (dsOf φ) σ' (some x) with
              | some (σ'', none) => retF C φ σ'' rs
              | some (σ'', some y) => some (.pan y, σ'')
              | none => none
            | _ => none) none
        | none => none
def fcall (C : Cfg) (Q : Orc) : Nat → CallF := Nat.rec (motive := fun _ => CallF) (fun _ _ _ => none) fun k ih => fcall1 C Q ih k
end
end Go.DM.FM
namespace Go.DM.FM
open Go
theorem sel2_set2 (j : D16) (x : A) (t : N16) : sel2 j (set2 j t x) = x := by cases t; cases j <;> rfl
theorem sel2_ne {i j : D16} (h : i ≠ j) (x : A) (t : N16) : sel2 i (set2 j t x) = sel2 i t := by cases t; cases i <;> cases j <;> first | rfl | exact absurd rfl h
theorem sel1_set1 (j : D16) (x : N16) (t : FF) : sel1 j (set1 j t x) = x := by cases t; cases j <;> rfl
theorem sel1_ne {i j : D16} (h : i ≠ j) (x : N16) (t : FF) : sel1 i (set1 j t x) = sel1 i t := by cases t; cases i <;> cases j <;> first | rfl | exact absurd rfl h
theorem dig_inj : ∀ a, a < 16 → ∀ b, b < 16 → dig a = dig b → a = b := by decide
noncomputable def slotV (φ : FF) (t : Nat) : A := sel2 (dig (Nat.shiftRight t 4)) (sel1 (dig (Nat.land t 15)) φ)
theorem get_slt (t : Nat) (ws : List A) (φ : FF) : get (slt t) ws φ = slotV φ t := rfl
theorem slotV_same (φ : FF) (t : Nat) (x : A) : slotV (setF (slt t) x φ) t = x := by
  show sel2 _ (sel1 _ (set1 _ φ (set2 _ (sel1 _ φ) x))) = x
  rw [sel1_set1, sel2_set2]
theorem slotV_ne (φ : FF) {t u : Nat} (ht : t < 256) (hu : u < 256) (h : u ≠ t) (x : A) : slotV (setF (slt t) x φ) u = slotV φ u := by
  show sel2 _ (sel1 _ (set1 _ φ (set2 _ (sel1 _ φ) x))) = _
  unfold slotV
  have l15 : ∀ a : Nat, Nat.land a 15 = a % 16 := fun a => Nat.and_two_pow_sub_one_eq_mod a 4
  have s4 : ∀ a : Nat, Nat.shiftRight a 4 = a / 16 := fun a => Nat.shiftRight_eq_div_pow a 4
  by_cases h1 : dig (Nat.land u 15) = dig (Nat.land t 15)
  · have e1 := dig_inj _ (by rw [l15]; omega) _ (by rw [l15]; omega) h1
    rw [h1, sel1_set1]
    by_cases h2 : dig (Nat.shiftRight u 4) = dig (Nat.shiftRight t 4)
    · have e2 := dig_inj _ (by rw [s4]; omega) _ (by rw [s4]; omega) h2
      rw [l15, l15] at e1
      rw [s4, s4] at e2
      omega
    · rw [sel2_ne h2]
  · rw [sel1_ne h1]
theorem trGet_eq (t : Tr Blk) : ∀ n, trGet t n = t.get n := by
  induction t with
  | nil => intro n; rfl
  | node l v r ihl ihr =>
    intro n
    cases n with
    | zero => rfl
    | succ m =>
      rw [Tr.get_eq, if_neg (by omega)]
      show cond (Nat.beq (Nat.land m 1) 0) (trGet l (Nat.shiftRight m 1)) (trGet r (Nat.shiftRight m 1)) = _
      have l1 : Nat.land m 1 = m % 2 := Nat.and_two_pow_sub_one_eq_mod m 1
      have s1 : Nat.shiftRight m 1 = m / 2 := Nat.shiftRight_eq_div_pow m 1
      rw [l1, s1, ihl, ihr]
      by_cases h : m % 2 = 0
      · rw [if_pos (by omega), show Nat.beq (m % 2) 0 = true by rw [h]; rfl, show (m + 1) / 2 = m / 2 by omega]; rfl
      · have hb : Nat.beq (m % 2) 0 = false := by
          cases hc : Nat.beq (m % 2) 0 with
          | false => rfl
          | true => exact absurd (Nat.eq_of_beq_eq_true hc) h
        rw [if_neg (by omega), hb, show (m + 1) / 2 - 1 = m / 2 by omega]; rfl
theorem trSet_eq (x : Option Blk) : ∀ (f : Nat) (t : Tr Blk) (n : Nat), trSet x f t n = Tr.setF f t n x
  | 0, _, _ => rfl
  | f + 1, t, n => by
    have l1 : ∀ m : Nat, Nat.land m 1 = m % 2 := fun m => Nat.and_two_pow_sub_one_eq_mod m 1
    have s1 : ∀ m : Nat, Nat.shiftRight m 1 = m / 2 := fun m => Nat.shiftRight_eq_div_pow m 1
    rw [Tr.setF]
    cases n with
    | zero => cases t <;> rfl
    | succ m =>
      rw [if_neg (by omega)]
      have key : ∀ l v r, cond (Nat.beq (Nat.land m 1) 0) (Tr.node (trSet x f l (Nat.shiftRight m 1)) v r) (.node l v (trSet x f r (Nat.shiftRight m 1))) = if (m + 1) % 2 = 1 then .node (Tr.setF f l ((m + 1) / 2) x) v r else .node l v (Tr.setF f r ((m + 1) / 2 - 1) x) := by
        intro l v r
        rw [l1, s1, trSet_eq x f, trSet_eq x f]
        by_cases h : m % 2 = 0
        · rw [if_pos (by omega), show Nat.beq (m % 2) 0 = true by rw [h]; rfl, show (m + 1) / 2 = m / 2 by omega]; rfl
        · have hb : Nat.beq (m % 2) 0 = false := by
            cases hc : Nat.beq (m % 2) 0 with
            | false => rfl
            | true => exact absurd (Nat.eq_of_beq_eq_true hc) h
          rw [if_neg (by omega), hb, show (m + 1) / 2 - 1 = m / 2 by omega]; rfl
      cases t with
      | nil => exact key .nil none .nil
      | node l v r => exact key l v r
theorem push_eq (σ : St) (b : Blk) : (⟨trSet (some b) (Nat.succ σ.next) σ.blks σ.next, Nat.succ σ.next, σ.toks, σ.nextT⟩ : St) = σ.push b := by
  rw [trSet_eq]; rfl
theorem put_eq (σ : St) (b : Nat) (x : Blk) : (⟨trSet (some x) (Nat.succ b) σ.blks b, σ.next, σ.toks, σ.nextT⟩ : St) = σ.put b x := by
  rw [trSet_eq]; rfl
theorem nthA_eq : ∀ (l : List A) (n : Nat), nthA l n = (l[n]?).getD .junk
  | [], n => by cases n <;> rfl
  | _ :: _, 0 => rfl
  | _ :: r, n + 1 => by rw [List.getElem?_cons_succ, ← nthA_eq r n]; rfl
theorem ltLen_eq : ∀ (l : List A) (n : Nat), ltLen l n = decide (n < l.length)
  | [], n => by cases n <;> rfl
  | _ :: _, 0 => rfl
  | _ :: r, n + 1 => by
    have := ltLen_eq r n
    rw [show ltLen (_ :: r) (n + 1) = ltLen r n from rfl, this]
    simp
theorem listSet_eq : ∀ (l : List A) (n : Nat) (x : A), n < l.length → listSet l n x = splice l n [x]
  | [], n, _, h => absurd h (Nat.not_lt_zero n)
  | _ :: r, 0, x, _ => rfl
  | a :: r, n + 1, x, h => by
    have := listSet_eq r n x (Nat.lt_of_succ_lt_succ h)
    rw [show listSet (a :: r) (n + 1) x = a :: listSet r n x from rfl, this]
    simp [splice]
end Go.DM.FM
namespace Go.DM.FM
open Go
def wr (s : Bool) (h m n : Int) : Int := if (s && decide (n % m ≥ h)) = true then n % m - m else n % m
theorem wrap_nat (k : IntKind) (c : Nat) (h : c ≤ maxN k) : k.wrap (Int.ofNat c) = Int.ofNat c := by
  have e : Int.ofNat c = (c : Int) := rfl
  rw [e]
  cases k with
  | i8 =>
    have h : c ≤ 127 := h
    rw [show IntKind.i8.wrap (c : Int) = wr true 128 256 (c : Int) from rfl]
    unfold wr
    simp only [Bool.true_and, decide_eq_true_eq]
    split <;> omega
  | i16 =>
    have h : c ≤ 32767 := h
    rw [show IntKind.i16.wrap (c : Int) = wr true 32768 65536 (c : Int) from rfl]
    unfold wr
    simp only [Bool.true_and, decide_eq_true_eq]
    split <;> omega
  | i32 =>
    have h : c ≤ 2147483647 := h
    rw [show IntKind.i32.wrap (c : Int) = wr true 2147483648 4294967296 (c : Int) from rfl]
    unfold wr
    simp only [Bool.true_and, decide_eq_true_eq]
    split <;> omega
  | i64 =>
    have h : c ≤ 9223372036854775807 := h
    rw [show IntKind.i64.wrap (c : Int) = wr true 9223372036854775808 18446744073709551616 (c : Int) from rfl]
    unfold wr
    simp only [Bool.true_and, decide_eq_true_eq]
    split <;> omega
  | u8 =>
    have h : c ≤ 255 := h
    rw [show IntKind.u8.wrap (c : Int) = wr false 128 256 (c : Int) from rfl]
    unfold wr
    simp only [Bool.false_and, Bool.false_eq_true, if_false]
    omega
  | u16 =>
    have h : c ≤ 65535 := h
    rw [show IntKind.u16.wrap (c : Int) = wr false 32768 65536 (c : Int) from rfl]
    unfold wr
    simp only [Bool.false_and, Bool.false_eq_true, if_false]
    omega
  | u32 =>
    have h : c ≤ 4294967295 := h
    rw [show IntKind.u32.wrap (c : Int) = wr false 2147483648 4294967296 (c : Int) from rfl]
    unfold wr
    simp only [Bool.false_and, Bool.false_eq_true, if_false]
    omega
  | u64 =>
    have h : c ≤ 18446744073709551615 := h
    rw [show IntKind.u64.wrap (c : Int) = wr false 9223372036854775808 18446744073709551616 (c : Int) from rfl]
    unfold wr
    simp only [Bool.false_and, Bool.false_eq_true, if_false]
    omega
theorem wrap_neg (k : IntKind) (hs : sgn k = true) (c : Nat) (h : c ≤ maxN k) : k.wrap (Int.negSucc c) = Int.negSucc c := by
  have e : Int.negSucc c = -((c : Int) + 1) := Int.negSucc_eq c
  rw [e]
  cases k with
  | i8 =>
    have h : c ≤ 127 := h
    rw [show IntKind.i8.wrap (-((c : Int) + 1)) = wr true 128 256 (-((c : Int) + 1)) from rfl]
    unfold wr
    simp only [Bool.true_and, decide_eq_true_eq]
    split <;> omega
  | i16 =>
    have h : c ≤ 32767 := h
    rw [show IntKind.i16.wrap (-((c : Int) + 1)) = wr true 32768 65536 (-((c : Int) + 1)) from rfl]
    unfold wr
    simp only [Bool.true_and, decide_eq_true_eq]
    split <;> omega
  | i32 =>
    have h : c ≤ 2147483647 := h
    rw [show IntKind.i32.wrap (-((c : Int) + 1)) = wr true 2147483648 4294967296 (-((c : Int) + 1)) from rfl]
    unfold wr
    simp only [Bool.true_and, decide_eq_true_eq]
    split <;> omega
  | i64 =>
    have h : c ≤ 9223372036854775807 := h
    rw [show IntKind.i64.wrap (-((c : Int) + 1)) = wr true 9223372036854775808 18446744073709551616 (-((c : Int) + 1)) from rfl]
    unfold wr
    simp only [Bool.true_and, decide_eq_true_eq]
    split <;> omega
  | u8 => cases hs
  | u16 => cases hs
  | u32 => cases hs
  | u64 => cases hs
theorem wrapP_eq (k : IntKind) (c : Nat) : wrapP k c = .v (.int k (k.wrap (Int.ofNat c))) := by
  unfold wrapP
  cases h : Nat.ble c (maxN k) with
  | true => rw [wrap_nat k c (Nat.le_of_ble_eq_true h)]; rfl
  | false => rfl
theorem wrapM_eq (k : IntKind) (c : Nat) : wrapM k c = .v (.int k (k.wrap (Int.negSucc c))) := by
  unfold wrapM
  cases hs : sgn k with
  | false => rfl
  | true =>
    cases h : Nat.ble c (maxN k) with
    | true => rw [wrap_neg k hs c (Nat.le_of_ble_eq_true h)]; rfl
    | false => rfl
theorem wrapA_eq (k : IntKind) (z : Int) : wrapA k z = .v (.int k (k.wrap z)) := by
  cases z with
  | ofNat n => exact wrapP_eq k n
  | negSucc n => exact wrapM_eq k n
theorem eqA_int {P : Program} {t : TypeId} {k : IntKind} {n : Int} {y : A} : eqA P t (.v (.int k n)) y = none := by
  unfold eqA
  split <;> first | rfl | (rename_i h _; cases h) | (simp_all)
theorem leI_eq (x y : Int) : leI x y = decide (x ≤ y) := by
  cases x with
  | ofNat m =>
    cases y with
    | ofNat n =>
      show Nat.ble m n = _
      cases h : Nat.ble m n with
      | true => have := Nat.le_of_ble_eq_true h; exact (decide_eq_true (Int.ofNat_le.2 this)).symm
      | false => exact (decide_eq_false (fun c => by rw [Nat.ble_eq_true_of_le (Int.ofNat_le.1 c)] at h; cases h)).symm
    | negSucc n => exact (decide_eq_false (by have := Int.negSucc_lt_zero n; have : (0 : Int) ≤ Int.ofNat m := Int.natCast_nonneg m; omega)).symm
  | negSucc m =>
    cases y with
    | ofNat n => exact (decide_eq_true (by have := Int.negSucc_lt_zero m; have : (0 : Int) ≤ Int.ofNat n := Int.natCast_nonneg n; omega)).symm
    | negSucc n =>
      show Nat.ble n m = _
      have e1 := Int.negSucc_eq m
      have e2 := Int.negSucc_eq n
      cases h : Nat.ble n m with
      | true => have := Nat.le_of_ble_eq_true h; exact (decide_eq_true (by omega)).symm
      | false => exact (decide_eq_false (fun c => by rw [Nat.ble_eq_true_of_le (by omega)] at h; cases h)).symm
theorem eqI_eq (x y : Int) : eqI x y = decide (x = y) := by
  cases x with
  | ofNat m =>
    cases y with
    | ofNat n =>
      show Nat.beq m n = _
      cases h : Nat.beq m n with
      | true => exact (decide_eq_true (by rw [Nat.eq_of_beq_eq_true h])).symm
      | false => exact (decide_eq_false (fun c => by cases c; rw [Nat.beq_refl] at h; cases h)).symm
    | negSucc n => exact (decide_eq_false (by intro c; cases c)).symm
  | negSucc m =>
    cases y with
    | ofNat n => exact (decide_eq_false (by intro c; cases c)).symm
    | negSucc n =>
      show Nat.beq m n = _
      cases h : Nat.beq m n with
      | true => exact (decide_eq_true (by rw [Nat.eq_of_beq_eq_true h])).symm
      | false => exact (decide_eq_false (fun c => by cases c; rw [Nat.beq_refl] at h; cases h)).symm
theorem nats_cases (x y : Int) (f : Nat → Nat → A) (e : A) : (∃ m n, x = Int.ofNat m ∧ y = Int.ofNat n ∧ nats x y f e = f m n) ∨ nats x y f e = e := by
  cases x with
  | ofNat m =>
    cases y with
    | ofNat n => exact .inl ⟨m, n, rfl, rfl, rfl⟩
    | negSucc n => exact .inr rfl
  | negSucc m => exact .inr rfl
theorem addG_eq (k : IntKind) (x y : Int) : addG k x y = .v (.int k (k.wrap (x + y))) := by
  unfold addG
  rcases nats_cases x y (fun m n => wrapP k (Nat.add m n)) (wrapA k (Int.add x y)) with ⟨m, n, rfl, rfl, h⟩ | h
  · rw [h, wrapP_eq]; rfl
  · rw [h, wrapA_eq]; rfl
theorem subG_eq (k : IntKind) (x y : Int) : subG k x y = .v (.int k (k.wrap (x - y))) := by
  cases x with
  | ofNat m =>
    cases y with
    | ofNat n =>
      show cond (Nat.ble n m) (wrapP k (Nat.sub m n)) (wrapM k (Nat.pred (Nat.sub n m))) = _
      have e : ∀ a : Nat, Int.ofNat a = (a : Int) := fun _ => rfl
      cases h : Nat.ble n m with
      | true =>
        have := Nat.le_of_ble_eq_true h
        rw [cond_true, wrapP_eq]
        congr 3
        rw [e, e, e]
        show ((m - n : Nat) : Int) = _
        omega
      | false =>
        have : ¬ n ≤ m := fun c => by rw [Nat.ble_eq_true_of_le c] at h; cases h
        rw [cond_false, wrapM_eq]
        congr 3
        rw [e, e, Int.negSucc_eq]
        show -((((n - m) - 1 : Nat) : Int) + 1) = _
        omega
    | negSucc n =>
      show wrapA k (Int.sub (Int.ofNat m) (Int.negSucc n)) = _
      rw [wrapA_eq]; rfl
  | negSucc m =>
    show wrapA k (Int.sub (Int.negSucc m) y) = _
    rw [wrapA_eq]; rfl
theorem mulG_eq (k : IntKind) (x y : Int) : mulG k x y = .v (.int k (k.wrap (x * y))) := by
  unfold mulG
  rcases nats_cases x y (fun m n => wrapP k (Nat.mul m n)) (wrapA k (Int.mul x y)) with ⟨m, n, rfl, rfl, h⟩ | h
  · rw [h, wrapP_eq]; rfl
  · rw [h, wrapA_eq]; rfl
section
variable {C : Cfg} {ρ : Operand → Option A} {o : Oper} {σ : St}
theorem op_int {b : BinOp} {t u : TypeId} {x y : Operand} {k k' : IntKind} {n m : Int} {r : Value} (hop : o.op = .binOp b t x y u) (hx : ρ x = some (.v (.int k n))) (hy : ρ y = some (.v (.int k' m)))
    (hr : det C.P (binOp b t (.int k n) (.int k' m)) = some r) (hs : ofVal r = some (.v r)) : op C ρ o σ = some (.val (.v r) σ) := by
  have hd : detIf C ρ o σ = some (.val (.v r) σ) := by
    refine detIf_of (u := r) ?_ ?_ hs
    · simp [hop, Op.operands, plainOps, hx, hy, toVal]
    · have hg : det C.P (eqGuard b t x y (.int k n) (.int k' m)) = some () := by cases b <;> rfl
      simp only [execOp, hop, valOf_v hx, valOf_v hy, det_bind, hg, hr, Option.bind_some, det_pure]
  unfold op
  rw [hop]
  cases b <;> simp only [hx, hy, eqA_int] <;> exact hd
end
end Go.DM.FM
namespace Go.DM.FM
open Go
theorem maxN_pow (k : IntKind) : ∃ j, maxN k + 1 = 2 ^ j ∧ j ≤ k.bits := by
  cases k
  · exact ⟨7, rfl, by decide⟩
  · exact ⟨15, rfl, by decide⟩
  · exact ⟨31, rfl, by decide⟩
  · exact ⟨63, rfl, by decide⟩
  · exact ⟨8, rfl, by decide⟩
  · exact ⟨16, rfl, by decide⟩
  · exact ⟨32, rfl, by decide⟩
  · exact ⟨64, rfl, by decide⟩
theorem ofInt_nat (k : IntKind) (m : Nat) (h : m ≤ maxN k) : (BitVec.ofInt k.bits (Int.ofNat m)).toNat = m := by
  obtain ⟨j, hj, hb⟩ := maxN_pow k
  have h2 : m < 2 ^ k.bits := Nat.lt_of_lt_of_le (by omega) (Nat.pow_le_pow_right (by decide) hb)
  have e : Int.ofNat m = (m : Int) := rfl
  rw [e, BitVec.ofInt_natCast, BitVec.toNat_ofNat, Nat.mod_eq_of_lt h2]
theorem bit_le {f : Nat → Nat → Nat} (hf : ∀ j a b, a < 2 ^ j → b < 2 ^ j → f a b < 2 ^ j) (k : IntKind) {m n : Nat} (hm : m ≤ maxN k) (hn : n ≤ maxN k) : f m n ≤ maxN k := by
  obtain ⟨j, hj, _⟩ := maxN_pow k
  have := hf j m n (by omega) (by omega)
  omega
theorem bitG_inv {f : Nat → Nat → Nat} {k : IntKind} {x y : Int} {a : A} (h : bitG f k x y = a) (hj : a ≠ .junk) : ∃ m n, x = Int.ofNat m ∧ y = Int.ofNat n ∧ m ≤ maxN k ∧ n ≤ maxN k ∧ a = .v (.int k (Int.ofNat (f m n))) := by
  unfold bitG at h
  rcases nats_cases x y (fun m n => cond (Nat.ble m (maxN k)) (cond (Nat.ble n (maxN k)) (.v (.int k (.ofNat (f m n)))) .junk) .junk) .junk with ⟨m, n, rfl, rfl, e⟩ | e
  · rw [e] at h
    cases h1 : Nat.ble m (maxN k) with
    | false => rw [h1] at h; exact absurd h.symm hj
    | true =>
      cases h2 : Nat.ble n (maxN k) with
      | false => rw [h1, h2] at h; exact absurd h.symm hj
      | true => rw [h1, h2] at h; exact ⟨m, n, rfl, rfl, Nat.le_of_ble_eq_true h1, Nat.le_of_ble_eq_true h2, h.symm⟩
  · rw [e] at h; exact absurd h.symm hj
theorem det_bits {P : Program} {k : IntKind} {m n : Nat} (hm : m ≤ maxN k) (hn : n ≤ maxN k) :
    det P (Op.intBits .and k (Int.ofNat m) (Int.ofNat n)) = some (.int k (Int.ofNat (Nat.land m n))) ∧ det P (Op.intBits .or k (Int.ofNat m) (Int.ofNat n)) = some (.int k (Int.ofNat (Nat.lor m n))) ∧
    det P (Op.intBits .xor k (Int.ofNat m) (Int.ofNat n)) = some (.int k (Int.ofNat (Nat.xor m n))) := by
  refine ⟨?_, ?_, ?_⟩
  · show some (Value.int k (k.wrap (((BitVec.ofInt k.bits (Int.ofNat m)) &&& (BitVec.ofInt k.bits (Int.ofNat n))).toNat : Int))) = _
    rw [BitVec.toNat_and, ofInt_nat k m hm, ofInt_nat k n hn]
    exact congrArg (fun z => some (Value.int k z)) (wrap_nat k (m &&& n) (bit_le (f := (· &&& ·)) (fun j a b ha _ => Nat.lt_of_le_of_lt Nat.and_le_left ha) k hm hn))
  · show some (Value.int k (k.wrap (((BitVec.ofInt k.bits (Int.ofNat m)) ||| (BitVec.ofInt k.bits (Int.ofNat n))).toNat : Int))) = _
    rw [BitVec.toNat_or, ofInt_nat k m hm, ofInt_nat k n hn]
    exact congrArg (fun z => some (Value.int k z)) (wrap_nat k (m ||| n) (bit_le (f := (· ||| ·)) (fun j a b => Nat.or_lt_two_pow) k hm hn))
  · show some (Value.int k (k.wrap (((BitVec.ofInt k.bits (Int.ofNat m)) ^^^ (BitVec.ofInt k.bits (Int.ofNat n))).toNat : Int))) = _
    rw [BitVec.toNat_xor, ofInt_nat k m hm, ofInt_nat k n hn]
    exact congrArg (fun z => some (Value.int k z)) (wrap_nat k (m ^^^ n) (bit_le (f := (· ^^^ ·)) (fun j a b => Nat.xor_lt_two_pow) k hm hn))
theorem binG_ok {b : BinOp} {b' : BO} (hb : boOf b = some b') {P : Program} {t : TypeId} {k : IntKind} {n m : Int} {a : A} (ha : binG b' k n m = a) (hj : a ≠ .junk) :
    ∃ r, a = .v r ∧ det P (binOp b t (.int k n) (.int k m)) = some r ∧ ofVal r = some (.v r) := by
  have hk : ∀ {α : Type} (x y : α), (if k ≠ k then x else y) = y := fun x y => if_neg (fun c => c rfl)
  have cmp : ∀ {z : Bool} {p : Prop} [Decidable p], z = decide p → cond z tt ff = .v (.bool (decide p)) := fun {z p _} h => by rw [h]; cases decide p <;> rfl
  have cmpN : ∀ {z : Bool} {p q : Prop} [Decidable p] [Decidable q], z = decide p → (q ↔ ¬ p) → cond z ff tt = .v (.bool (decide q)) := fun {z p q _ _} h hq => by
    rw [h]
    by_cases hp : p
    · rw [decide_eq_true hp, decide_eq_false (fun c => hq.1 c hp)]; rfl
    · rw [decide_eq_false hp, decide_eq_true (hq.2 hp)]; rfl
  cases b <;> cases hb
  case add => exact ⟨_, ha.symm.trans (addG_eq k n m), by simp only [binOp, hk, Op.intArith]; rfl, rfl⟩
  case sub => exact ⟨_, ha.symm.trans (subG_eq k n m), by simp only [binOp, hk, Op.intArith]; rfl, rfl⟩
  case mul => exact ⟨_, ha.symm.trans (mulG_eq k n m), by simp only [binOp, hk, Op.intArith]; rfl, rfl⟩
  case quo =>
    have ha : quoG k n m = a := ha
    unfold quoG at ha
    rcases nats_cases n m (fun m n => cond (Nat.ble 1 n) (wrapP k (Nat.div m n)) .junk) .junk with ⟨x, y, rfl, rfl, e⟩ | e
    · rw [e] at ha
      cases h1 : Nat.ble 1 y with
      | false => rw [h1] at ha; exact absurd ha.symm hj
      | true =>
        rw [h1, cond_true, wrapP_eq] at ha
        have hy := Nat.le_of_ble_eq_true h1
        have hy0 : ¬ (Int.ofNat y = 0) := fun c => by have : (y : Int) = 0 := c; omega
        exact ⟨_, ha.symm, by simp only [binOp, hk, Op.intDiv, if_neg hy0]; rfl, rfl⟩
    · rw [e] at ha; exact absurd ha.symm hj
  case rem =>
    have ha : remG k n m = a := ha
    unfold remG at ha
    rcases nats_cases n m (fun m n => cond (Nat.ble 1 n) (.v (.int k (.ofNat (Nat.mod m n)))) .junk) .junk with ⟨x, y, rfl, rfl, e⟩ | e
    · rw [e] at ha
      cases h1 : Nat.ble 1 y with
      | false => rw [h1] at ha; exact absurd ha.symm hj
      | true =>
        rw [h1, cond_true] at ha
        have hy := Nat.le_of_ble_eq_true h1
        have hy0 : ¬ (Int.ofNat y = 0) := fun c => by have : (y : Int) = 0 := c; omega
        exact ⟨_, ha.symm, by simp only [binOp, hk, Op.intDiv, if_neg hy0]; rfl, rfl⟩
    · rw [e] at ha; exact absurd ha.symm hj
  case and =>
    obtain ⟨x, y, rfl, rfl, h1, h2, h3⟩ := bitG_inv (f := Nat.land) ha hj
    exact ⟨_, h3, by simp only [binOp, hk]; exact (det_bits h1 h2).1, rfl⟩
  case or =>
    obtain ⟨x, y, rfl, rfl, h1, h2, h3⟩ := bitG_inv (f := Nat.lor) ha hj
    exact ⟨_, h3, by simp only [binOp, hk]; exact (det_bits h1 h2).2.1, rfl⟩
  case xor =>
    obtain ⟨x, y, rfl, rfl, h1, h2, h3⟩ := bitG_inv (f := Nat.xor) ha hj
    exact ⟨_, h3, by simp only [binOp, hk]; exact (det_bits h1 h2).2.2, rfl⟩
  case eql => exact ⟨_, ha.symm.trans (cmp (eqI_eq n m)), by simp only [binOp, hk, Op.intCmp]; rfl, rfl⟩
  case neq => exact ⟨_, ha.symm.trans (cmpN (q := ¬ n = m) (eqI_eq n m) Iff.rfl), by simp only [binOp, hk, Op.intCmp, det_pure]; congr 2; by_cases h : n = m <;> simp [h], rfl⟩
  case lss => exact ⟨_, ha.symm.trans (cmpN (q := n < m) (leI_eq m n) (by omega)), by simp only [binOp, hk, Op.intCmp]; rfl, rfl⟩
  case leq => exact ⟨_, ha.symm.trans (cmp (leI_eq n m)), by simp only [binOp, hk, Op.intCmp]; rfl, rfl⟩
  case gtr => exact ⟨_, ha.symm.trans (cmpN (q := n > m) (leI_eq n m) (by omega)), by simp only [binOp, hk, Op.intCmp]; rfl, rfl⟩
  case geq => exact ⟨_, ha.symm.trans (cmp (p := n ≥ m) (leI_eq m n)), by simp only [binOp, hk, Op.intCmp]; rfl, rfl⟩
end Go.DM.FM
namespace Go.DM.FM
open Go
theorem eI_inv {x : A} {f : IntKind → Int → A} {a : A} (h : eI x f = a) (hj : a ≠ .junk) : ∃ k n, x = .v (.int k n) ∧ f k n = a := by
  cases x with
  | v u => cases u <;> first | exact ⟨_, _, rfl, h⟩ | exact absurd h.symm hj
  | _ => exact absurd h.symm hj
theorem eB_inv {x : A} {f : Bool → A} {a : A} (h : eB x f = a) (hj : a ≠ .junk) : ∃ b, x = .v (.bool b) ∧ f b = a := by
  cases x with
  | v u => cases u <;> first | exact ⟨_, rfl, h⟩ | exact absurd h.symm hj
  | _ => exact absurd h.symm hj
theorem eS_inv {x : A} {f : ByteArray → A} {a : A} (h : eS x f = a) (hj : a ≠ .junk) : ∃ b, x = .v (.string b) ∧ f b = a := by
  cases x with
  | v u => cases u <;> first | exact ⟨_, rfl, h⟩ | exact absurd h.symm hj
  | _ => exact absurd h.symm hj
theorem kn_inj {k k' : IntKind} (h : Nat.beq (kn k) (kn k') = true) : k = k' := by
  have := Nat.eq_of_beq_eq_true h
  revert this; cases k <;> cases k' <;> first | (intro; rfl) | (intro h; cases h)
theorem binA_inv {b : BO} {x y a : A} (h : binA b x y = a) (hj : a ≠ .junk) : ∃ k n m, x = .v (.int k n) ∧ y = .v (.int k m) ∧ binG b k n m = a := by
  unfold binA at h
  obtain ⟨k, n, rfl, h1⟩ := eI_inv h hj
  obtain ⟨k', m, rfl, h2⟩ := eI_inv h1 hj
  cases hk : Nat.beq (kn k) (kn k') with
  | false => rw [hk] at h2; exact absurd h2.symm hj
  | true => rw [hk] at h2; obtain rfl := kn_inj hk; exact ⟨k, n, m, rfl, rfl, h2⟩
theorem cells_inv {σ : St} {b : Nat} {f : List A → A} {a : A} (h : cellsA σ b f = a) (hj : a ≠ .junk) : ∃ cs e, σ.cells b = some (cs, e) ∧ f cs = a := by
  unfold cellsA at h
  rw [trGet_eq] at h
  unfold St.cells
  cases hb : σ.blks.get b with
  | none => rw [hb] at h; exact absurd h.symm hj
  | some x =>
    rw [hb] at h
    cases x with
    | cells cs e => exact ⟨cs, e, rfl, h⟩
    | siter s p => exact absurd h.symm hj
    | map es c => exact absurd h.symm hj
    | miter m s e c => exact absurd h.symm hj
theorem eAddr_inv {x : A} {σ : St} {f : List A → Nat → A} {a : A} (h : eAddr x σ f = a) (hj : a ≠ .junk) : (∃ b o cs e, x = .ptr b o ∧ σ.cells b = some (cs, e) ∧ f cs o = a) ∨ ∃ cs o ap, x = .sp cs o ap ∧ f cs o = a := by
  cases x with
  | ptr b o => obtain ⟨cs, e, h1, h2⟩ := cells_inv h hj; exact .inl ⟨b, o, cs, e, rfl, h1, h2⟩
  | sp cs o ap => exact .inr ⟨cs, o, ap, rfl, h⟩
  | _ => exact absurd h.symm hj
theorem nthA_some {l : List A} {n : Nat} {a : A} (h : nthA l n = a) (hj : a ≠ .junk) : l[n]? = some a := by
  rw [nthA_eq] at h
  cases hl : l[n]? with
  | none => rw [hl] at h; exact absurd h.symm hj
  | some x => rw [hl] at h; rw [← h]; rfl
section
variable {C : Cfg} {ρ : Operand → Option A} {o : Oper} {σ : St} {x a : A}
theorem p_bin {b : BinOp} {b' : BO} (hb : boOf b = some b') {t u : TypeId} {X Y : Operand} {y : A} (hop : o.op = .binOp b t X Y u) (hx : x ≠ .junk → ρ X = some x) (hy : y ≠ .junk → ρ Y = some y) (h : binA b' x y = a) (hj : a ≠ .junk) : op C ρ o σ = some (.val a σ) := by
  obtain ⟨k, n, m, rfl, rfl, h'⟩ := binA_inv h hj
  obtain ⟨r, rfl, h1, h2⟩ := binG_ok hb (P := C.P) (t := t) h' hj
  exact op_int hop (hx (by simp)) (hy (by simp)) h1 h2
theorem p_not {t : TypeId} {X : Operand} (hop : o.op = .unOp .not t X) (hx : x ≠ .junk → ρ X = some x) (h : notA x = a) (hj : a ≠ .junk) : op C ρ o σ = some (.val a σ) := by
  obtain ⟨b, rfl, h'⟩ := eB_inv h hj
  have hx := hx (by simp)
  have ha : a = .v (.bool (!b)) := by rw [← h']; cases b <;> rfl
  have hd : detIf C ρ o σ = some (.val (.v (.bool (!b))) σ) := by
    refine detIf_of (u := .bool (!b)) ?_ ?_ rfl
    · simp [hop, Op.operands, plainOps, hx, toVal]
    · simp only [execOp, hop, valOf_v hx]; rfl
  unfold op
  rw [hop, ha]
  exact hd
theorem p_mv {X : Operand} (hop : o.op = .move X ∨ o.op = .assign X) (hx : x ≠ .junk → ρ X = some x) (hj : x ≠ .junk) : op C ρ o σ = some (.val x σ) := by
  rcases hop with hop | hop <;> simp only [op, hop, hx hj, wrapV]
theorem p_ld {t : TypeId} {i : TypeInfo} {X : Operand} (hop : o.op = .load t X) (h1 : isAggT C.P t = some false) (h2 : C.P.info? t = some i) (hx : x ≠ .junk → ρ X = some x) (h : eAddr x σ nthA = a) (hj : a ≠ .junk) : op C ρ o σ = some (.val a σ) := by
  rcases eAddr_inv h hj with ⟨b, off, cs, e, rfl, hc, h'⟩ | ⟨cs, off, ap, rfl, h'⟩
  · simp only [op, hop, hx (by simp), loadOp, hc, loadAt, h1, h2, nthA_some h' hj, wrapV]
  · simp only [op, hop, hx (by simp), loadOp, loadAt, h1, h2, nthA_some h' hj, wrapV]
theorem p_ldA {t : TypeId} {i : TypeInfo} {X : Operand} (hop : o.op = .load t X) (h1 : isAggT C.P t = some true) (h2 : C.P.info? t = some i) (hx : x ≠ .junk → ρ X = some x)
    (h : eAddr x σ (fun cs o => cond (Nat.ble (Nat.add o i.size) cs.length) (.agg ((cs.drop o).take i.size)) .junk) = a) (hj : a ≠ .junk) : op C ρ o σ = some (.val a σ) := by
  have key : ∀ (cs : List A) (off : Nat), cond (Nat.ble (Nat.add off i.size) cs.length) (A.agg ((cs.drop off).take i.size)) .junk = a → loadAt C.P t cs off = some a := by
    intro cs off h
    cases hb : Nat.ble (Nat.add off i.size) cs.length with
    | false => rw [hb] at h; exact absurd h.symm hj
    | true =>
      rw [hb] at h
      have : off + i.size ≤ cs.length := Nat.le_of_ble_eq_true hb
      simp only [loadAt, h1, h2]
      rw [if_pos this]; exact congrArg some h
  rcases eAddr_inv h hj with ⟨b, off, cs, e, rfl, hc, h'⟩ | ⟨cs, off, ap, rfl, h'⟩
  · simp only [op, hop, hx (by simp), loadOp, hc, key _ _ h', wrapV]
  · simp only [op, hop, hx (by simp), loadOp, key _ _ h', wrapV]
theorem p_fld {s : TypeId} {fs : Array Field} {f n : Nat} {fd : Field} {X : Operand} (hop : o.op = .fieldAddr s X f) (h1 : C.P.underlying s = some (.struct fs)) (h2 : fs[f]? = some fd) (h3 : sizeOfT C.P fd.type = some n) (h4 : n ≠ 0)
    (hx : x ≠ .junk → ρ X = some x) (h : fldA fd.offset x = a) (hj : a ≠ .junk) : op C ρ o σ = some (.val a σ) := by
  cases x with
  | ptr b off => subst h; simp only [op, hop, hx (by simp), fieldOp, h1, h2, h3, if_neg h4, wrapV]; rfl
  | sp cs off ap => subst h; simp only [op, hop, hx (by simp), fieldOp, h1, h2, h3, if_neg h4, wrapV]; rfl
  | _ => exact absurd h.symm hj
end
end Go.DM.FM
namespace Go.DM.FM
open Go
theorem sizeG_eq : ∀ (l : List UInt8) (n : Nat), sizeG l n = n + l.length
  | [], _ => rfl
  | _ :: r, n => by
    have := sizeG_eq r (n + 1)
    rw [show sizeG (_ :: r) n = sizeG r (n + 1) from rfl, this, List.length_cons]; omega
theorem sizeN_eq (s : ByteArray) : sizeN s = s.size := by
  unfold sizeN
  rw [sizeG_eq, Nat.zero_add]
  show s.data.toList.length = s.data.size
  simp
section
variable {C : Cfg} {ρ : Operand → Option A} {o : Oper} {σ : St} {x a : A}
theorem p_nil {X : Operand} (hop : o.op = .nilCheck X) (hx : x ≠ .junk → ρ X = some x) (h : nilA x = a) (hj : a ≠ .junk) : op C ρ o σ = some (.val a σ) := by
  cases x with
  | v u => exact absurd h.symm hj
  | junk => exact absurd h.symm hj
  | fn f l c =>
    cases f with
    | func g => subst h; simp only [op, hop, hx (by simp)]; rfl
    | _ => exact absurd h.symm hj
  | _ => subst h; simp only [op, hop, hx (by simp)]; rfl
theorem p_len {c : Call} {X : Operand} {t e : TypeId} (hop : o.op = .call c) (hc : c.callee = .builtin .len) (hargs : c.args.toList = [X]) (h0 : c.argTypes[0]? = some t) (ht : C.P.underlying t = some (.slice e)) (hx : x ≠ .junk → ρ X = some x) (h : lenS' x = a) (hj : a ≠ .junk) : op C ρ o σ = some (.val a σ) := by
  cases x with
  | sl sz cs ap => subst h; simp only [op, hop, hc, builtinOp, hargs, hx (by simp), h0, lenA, ht]; rfl
  | ms b off len cap => subst h; simp only [op, hop, hc, builtinOp, hargs, hx (by simp), h0, lenA, ht]; rfl
  | _ => exact absurd h.symm hj
theorem p_lent {c : Call} {X : Operand} {t : TypeId} (hop : o.op = .call c) (hc : c.callee = .builtin .len) (hargs : c.args.toList = [X]) (h0 : c.argTypes[0]? = some t) (ht : C.P.underlying t = some .string) (hx : x ≠ .junk → ρ X = some x) (h : lenT' x = a) (hj : a ≠ .junk) : op C ρ o σ = some (.val a σ) := by
  cases x with
  | v u =>
    cases u with
    | string s =>
      have : a = .v (.int .i64 ((s.size : Nat) : Int)) := by rw [← h, ← sizeN_eq]; rfl
      rw [this]
      exact op_len hop hc hargs h0 (hx (by simp)) ht
    | _ => exact absurd h.symm hj
  | _ => exact absurd h.symm hj
theorem nats_inv {z : Int} {f : Nat → Nat → A} (h : nats z 0 f .junk = a) (hj : a ≠ .junk) : ∃ n, z = Int.ofNat n ∧ f n 0 = a := by
  cases z with
  | ofNat n => exact ⟨n, rfl, h⟩
  | negSucc n => exact absurd h.symm hj
theorem p_ia {t e : TypeId} {sz : Nat} {X I : Operand} {i : A} (hop : o.op = .indexAddr t X I) (ht : C.P.underlying t = some (.slice e)) (hs : sizeOfT C.P e = some sz) (hx : x ≠ .junk → ρ X = some x) (hi : i ≠ .junk → ρ I = some i)
    (h : (eI i fun _ z => nats z 0 (fun n _ => iaA sz n x) .junk) = a) (hj : a ≠ .junk) : op C ρ o σ = some (.val a σ) := by
  obtain ⟨k, z, rfl, h1⟩ := eI_inv h hj
  obtain ⟨n, rfl, h2⟩ := nats_inv h1 hj
  have hi := hi (by simp)
  cases x with
  | sl z cs ap =>
    have h2 : cond (Nat.beq z sz) (cond (Nat.ble 1 sz) (cond (Nat.ble (Nat.succ n) (Nat.div cs.length sz)) (.sp cs (Nat.mul n sz) .no) .junk) .junk) .junk = a := h2
    cases b1 : Nat.beq z sz with
    | false => rw [b1] at h2; exact absurd h2.symm hj
    | true =>
      cases b2 : Nat.ble 1 sz with
      | false => rw [b1, b2] at h2; exact absurd h2.symm hj
      | true =>
        cases b3 : Nat.ble (Nat.succ n) (Nat.div cs.length sz) with
        | false => rw [b1, b2, b3] at h2; exact absurd h2.symm hj
        | true =>
          rw [b1, b2, b3] at h2
          obtain rfl := Nat.eq_of_beq_eq_true b1
          have c2 := Nat.le_of_ble_eq_true b2
          have c3 : n + 1 ≤ cs.length / z := Nat.le_of_ble_eq_true b3
          have e0 : Int.ofNat n = (n : Int) := rfl
          simp only [op, hop, hx (by simp), hi, indexAddrOp, ht, hs]
          rw [if_pos ⟨trivial, c2, by rw [e0]; omega, by rw [e0]; omega⟩]
          rw [← h2]; rfl
  | ms b off len cap =>
    have h2 : cond (Nat.ble (Nat.succ n) len) (.ptr b (Nat.add off (Nat.mul n sz))) .junk = a := h2
    cases b3 : Nat.ble (Nat.succ n) len with
    | false => rw [b3] at h2; exact absurd h2.symm hj
    | true =>
      rw [b3] at h2
      have c3 : n + 1 ≤ len := Nat.le_of_ble_eq_true b3
      have e0 : Int.ofNat n = (n : Int) := rfl
      simp only [op, hop, hx (by simp), hi, indexAddrOp, ht, hs]
      rw [if_pos ⟨by rw [e0]; omega, by rw [e0]; omega⟩]
      rw [← h2]; rfl
  | _ => exact absurd h2.symm hj
theorem p_iap {t e : TypeId} {sz len : Nat} {X I : Operand} {i : A} (hop : o.op = .indexAddr t X I) (ht : C.P.underlying t = some (.array len e)) (hs : sizeOfT C.P e = some sz) (hx : x ≠ .junk → ρ X = some x) (hi : i ≠ .junk → ρ I = some i)
    (h : (eI i fun _ z => nats z 0 (fun n _ => cond (Nat.ble (Nat.succ n) len) (iapA sz n x) .junk) .junk) = a) (hj : a ≠ .junk) : op C ρ o σ = some (.val a σ) := by
  obtain ⟨k, z, rfl, h1⟩ := eI_inv h hj
  obtain ⟨n, rfl, h2⟩ := nats_inv h1 hj
  have hi := hi (by simp)
  have e0 : Int.ofNat n = (n : Int) := rfl
  cases b3 : Nat.ble (Nat.succ n) len with
  | false => rw [b3] at h2; exact absurd h2.symm hj
  | true =>
    rw [b3] at h2
    have c3 : n + 1 ≤ len := Nat.le_of_ble_eq_true b3
    cases x with
    | ptr b off =>
      simp only [op, hop, hx (by simp), hi, indexAddrOp, ht, hs]
      rw [if_pos ⟨by rw [e0]; omega, by rw [e0]; omega⟩, ← h2]; rfl
    | sp cs off ap =>
      simp only [op, hop, hx (by simp), hi, indexAddrOp, ht, hs]
      rw [if_pos ⟨by rw [e0]; omega, by rw [e0]; omega⟩, ← h2]; rfl
    | _ => exact absurd h2.symm hj
theorem p_pick {X Y Z : Operand} {y z : A} (hop : o.op = .pick X Y Z) (hx : x ≠ .junk → ρ X = some x) (hy : y ≠ .junk → ρ Y = some y) (hz : z ≠ .junk → ρ Z = some z) (h : (eB x fun t => cond t y z) = a) (hj : a ≠ .junk) : op C ρ o σ = some (.val a σ) := by
  obtain ⟨b, rfl, h1⟩ := eB_inv h hj
  cases b with
  | true => have h1 : y = a := h1; subst h1; simp only [op, hop, hx (by simp), hy hj, wrapV, if_true]
  | false => have h1 : z = a := h1; subst h1; simp only [op, hop, hx (by simp), hz hj, wrapV, Bool.false_eq_true, if_false]
theorem p_ext {X : Operand} {i : Nat} (hop : o.op = .extract X i) (hx : x ≠ .junk → ρ X = some x) (h : extA i x = a) (hj : a ≠ .junk) : op C ρ o σ = some (.val a σ) := by
  cases x with
  | tup vs => simp only [op, hop, hx (by simp), nthA_some (show nthA vs i = a from h) hj, wrapV]
  | _ => exact absurd h.symm hj
theorem p_fldv {t : TypeId} {fs : Array Field} {f : Nat} {fd : Field} {X : Operand} (hop : o.op = .field t X f) (h1 : C.P.underlying t = some (.struct fs)) (h2 : fs[f]? = some fd) (h3 : isAggT C.P fd.type = some false) (hx : x ≠ .junk → ρ X = some x) (h : fldV fd.offset x = a) (hj : a ≠ .junk) : op C ρ o σ = some (.val a σ) := by
  cases x with
  | agg cs =>
    have := nthA_some (show nthA cs fd.offset = a from h) hj
    simp only [op, hop, hx (by simp), fieldVal, h1, h2, partA, h3, this, wrapV]
  | _ => exact absurd h.symm hj
end
end Go.DM.FM
