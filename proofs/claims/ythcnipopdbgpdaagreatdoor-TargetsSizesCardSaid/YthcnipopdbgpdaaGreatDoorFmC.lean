/- This text states the fast machine (an interpreter of compiled code) and proves its frames, blocks and numbers equal to the D-machine's. No condition. -/
import Derived.Test.YthcnipopdbgpdaaGreatDoorDmF
set_option linter.constructorNameAsVariable false
namespace Go.DM.FM
open Go
noncomputable section
structure N16 where
 a : A
 b : A
 c : A
 d : A
 e : A
 f : A
 g : A
 h : A
 i : A
 j : A
 k : A
 l : A
 m : A
 n : A
 o : A
 p : A
structure FF where
 a : N16
 b : N16
 c : N16
 d : N16
 e : N16
 f : N16
 g : N16
 h : N16
 i : N16
 j : N16
 k : N16
 l : N16
 m : N16
 n : N16
 o : N16
 p : N16
inductive D16 where
 | ka | kb | kc | kd | ke | kf | kg | kh | ki | kj | kk | kl | km | kn | ko | kp
 deriving DecidableEq
def P5 (i : D16) : N16 → A := D16.rec (motive := fun _ => N16 → A) N16.a N16.b N16.c N16.d N16.e N16.f N16.g N16.h N16.i N16.j N16.k N16.l N16.m N16.n N16.o N16.p i
def Lr (i : D16) : FF → N16 := D16.rec (motive := fun _ => FF → N16) FF.a FF.b FF.c FF.d FF.e FF.f FF.g FF.h FF.i FF.j FF.k FF.l FF.m FF.n FF.o FF.p i
def Ad3 (t : N16) : A → N16 := N16.rec (motive := fun _ => A → N16) (fun _a b c d e f g h i j k l m n o p z => ⟨z, b, c, d, e, f, g, h, i, j, k, l, m, n, o, p⟩) t
def Ad4 (t : N16) : A → N16 := N16.rec (motive := fun _ => A → N16) (fun a _b c d e f g h i j k l m n o p z => ⟨a, z, c, d, e, f, g, h, i, j, k, l, m, n, o, p⟩) t
def Ad5 (t : N16) : A → N16 := N16.rec (motive := fun _ => A → N16) (fun a b _c d e f g h i j k l m n o p z => ⟨a, b, z, d, e, f, g, h, i, j, k, l, m, n, o, p⟩) t
def Ad6 (t : N16) : A → N16 := N16.rec (motive := fun _ => A → N16) (fun a b c _d e f g h i j k l m n o p z => ⟨a, b, c, z, e, f, g, h, i, j, k, l, m, n, o, p⟩) t
def Ad7 (t : N16) : A → N16 := N16.rec (motive := fun _ => A → N16) (fun a b c d _e f g h i j k l m n o p z => ⟨a, b, c, d, z, f, g, h, i, j, k, l, m, n, o, p⟩) t
def Ad8 (t : N16) : A → N16 := N16.rec (motive := fun _ => A → N16) (fun a b c d e _f g h i j k l m n o p z => ⟨a, b, c, d, e, z, g, h, i, j, k, l, m, n, o, p⟩) t
def Ad9 (t : N16) : A → N16 := N16.rec (motive := fun _ => A → N16) (fun a b c d e f _g h i j k l m n o p z => ⟨a, b, c, d, e, f, z, h, i, j, k, l, m, n, o, p⟩) t
def Aea (t : N16) : A → N16 := N16.rec (motive := fun _ => A → N16) (fun a b c d e f g _h i j k l m n o p z => ⟨a, b, c, d, e, f, g, z, i, j, k, l, m, n, o, p⟩) t
def Aeb (t : N16) : A → N16 := N16.rec (motive := fun _ => A → N16) (fun a b c d e f g h _i j k l m n o p z => ⟨a, b, c, d, e, f, g, h, z, j, k, l, m, n, o, p⟩) t
def Aec (t : N16) : A → N16 := N16.rec (motive := fun _ => A → N16) (fun a b c d e f g h i _j k l m n o p z => ⟨a, b, c, d, e, f, g, h, i, z, k, l, m, n, o, p⟩) t
def Aed (t : N16) : A → N16 := N16.rec (motive := fun _ => A → N16) (fun a b c d e f g h i j _k l m n o p z => ⟨a, b, c, d, e, f, g, h, i, j, z, l, m, n, o, p⟩) t
def Aee (t : N16) : A → N16 := N16.rec (motive := fun _ => A → N16) (fun a b c d e f g h i j k _l m n o p z => ⟨a, b, c, d, e, f, g, h, i, j, k, z, m, n, o, p⟩) t
def Aef (t : N16) : A → N16 := N16.rec (motive := fun _ => A → N16) (fun a b c d e f g h i j k l _m n o p z => ⟨a, b, c, d, e, f, g, h, i, j, k, l, z, n, o, p⟩) t
def Aeg (t : N16) : A → N16 := N16.rec (motive := fun _ => A → N16) (fun a b c d e f g h i j k l m _n o p z => ⟨a, b, c, d, e, f, g, h, i, j, k, l, m, z, o, p⟩) t
def Aeh (t : N16) : A → N16 := N16.rec (motive := fun _ => A → N16) (fun a b c d e f g h i j k l m n _o p z => ⟨a, b, c, d, e, f, g, h, i, j, k, l, m, n, z, p⟩) t
def Aei (t : N16) : A → N16 := N16.rec (motive := fun _ => A → N16) (fun a b c d e f g h i j k l m n o _p z => ⟨a, b, c, d, e, f, g, h, i, j, k, l, m, n, o, z⟩) t
def Vl (i : D16) : N16 → A → N16 := D16.rec (motive := fun _ => N16 → A → N16) Ad3 Ad4 Ad5 Ad6 Ad7 Ad8 Ad9 Aea Aeb Aec Aed Aee Aef Aeg Aeh Aei i
def Aej (t : FF) : N16 → FF := FF.rec (motive := fun _ => N16 → FF) (fun _a b c d e f g h i j k l m n o p z => ⟨z, b, c, d, e, f, g, h, i, j, k, l, m, n, o, p⟩) t
def Aek (t : FF) : N16 → FF := FF.rec (motive := fun _ => N16 → FF) (fun a _b c d e f g h i j k l m n o p z => ⟨a, z, c, d, e, f, g, h, i, j, k, l, m, n, o, p⟩) t
def Ael (t : FF) : N16 → FF := FF.rec (motive := fun _ => N16 → FF) (fun a b _c d e f g h i j k l m n o p z => ⟨a, b, z, d, e, f, g, h, i, j, k, l, m, n, o, p⟩) t
def Aem (t : FF) : N16 → FF := FF.rec (motive := fun _ => N16 → FF) (fun a b c _d e f g h i j k l m n o p z => ⟨a, b, c, z, e, f, g, h, i, j, k, l, m, n, o, p⟩) t
def Aen (t : FF) : N16 → FF := FF.rec (motive := fun _ => N16 → FF) (fun a b c d _e f g h i j k l m n o p z => ⟨a, b, c, d, z, f, g, h, i, j, k, l, m, n, o, p⟩) t
def Aeo (t : FF) : N16 → FF := FF.rec (motive := fun _ => N16 → FF) (fun a b c d e _f g h i j k l m n o p z => ⟨a, b, c, d, e, z, g, h, i, j, k, l, m, n, o, p⟩) t
def Aep (t : FF) : N16 → FF := FF.rec (motive := fun _ => N16 → FF) (fun a b c d e f _g h i j k l m n o p z => ⟨a, b, c, d, e, f, z, h, i, j, k, l, m, n, o, p⟩) t
def Aeq (t : FF) : N16 → FF := FF.rec (motive := fun _ => N16 → FF) (fun a b c d e f g _h i j k l m n o p z => ⟨a, b, c, d, e, f, g, z, i, j, k, l, m, n, o, p⟩) t
def Aer (t : FF) : N16 → FF := FF.rec (motive := fun _ => N16 → FF) (fun a b c d e f g h _i j k l m n o p z => ⟨a, b, c, d, e, f, g, h, z, j, k, l, m, n, o, p⟩) t
def Aes (t : FF) : N16 → FF := FF.rec (motive := fun _ => N16 → FF) (fun a b c d e f g h i _j k l m n o p z => ⟨a, b, c, d, e, f, g, h, i, z, k, l, m, n, o, p⟩) t
def Aet (t : FF) : N16 → FF := FF.rec (motive := fun _ => N16 → FF) (fun a b c d e f g h i j _k l m n o p z => ⟨a, b, c, d, e, f, g, h, i, j, z, l, m, n, o, p⟩) t
def Aeu (t : FF) : N16 → FF := FF.rec (motive := fun _ => N16 → FF) (fun a b c d e f g h i j k _l m n o p z => ⟨a, b, c, d, e, f, g, h, i, j, k, z, m, n, o, p⟩) t
def Aev (t : FF) : N16 → FF := FF.rec (motive := fun _ => N16 → FF) (fun a b c d e f g h i j k l _m n o p z => ⟨a, b, c, d, e, f, g, h, i, j, k, l, z, n, o, p⟩) t
def Aew (t : FF) : N16 → FF := FF.rec (motive := fun _ => N16 → FF) (fun a b c d e f g h i j k l m _n o p z => ⟨a, b, c, d, e, f, g, h, i, j, k, l, m, z, o, p⟩) t
def Aex (t : FF) : N16 → FF := FF.rec (motive := fun _ => N16 → FF) (fun a b c d e f g h i j k l m n _o p z => ⟨a, b, c, d, e, f, g, h, i, j, k, l, m, n, z, p⟩) t
def Aey (t : FF) : N16 → FF := FF.rec (motive := fun _ => N16 → FF) (fun a b c d e f g h i j k l m n o _p z => ⟨a, b, c, d, e, f, g, h, i, j, k, l, m, n, o, z⟩) t
def Vm (i : D16) : FF → N16 → FF := D16.rec (motive := fun _ => FF → N16 → FF) Aej Aek Ael Aem Aen Aeo Aep Aeq Aer Aes Aet Aeu Aev Aew Aex Aey i
def Hl : N16 := ⟨.junk, .junk, .junk, .junk, .junk, .junk, .junk, .junk, .junk, .junk, .junk, .junk, .junk, .junk, .junk, .junk⟩
def ff0 : FF := ⟨Hl, Hl, Hl, Hl, Hl, Hl, Hl, Hl, Hl, Hl, Hl, Hl, Hl, Hl, Hl, Hl⟩
def dig (n : Nat) : D16 := Nat.rec .ka (fun n _ =>  Nat.rec .kb (fun n _ =>  Nat.rec .kc (fun n _ =>  Nat.rec .kd (fun n _ =>  Nat.rec .ke (fun n _ =>  Nat.rec .kf (fun n _ =>  Nat.rec .kg (fun n _ =>  Nat.rec .kh (fun n _ =>  Nat.rec .ki (fun n _ =>  Nat.rec .kj (fun n _ =>  Nat.rec .kk (fun n _ =>  Nat.rec .kl (fun n _ =>  Nat.rec .km (fun n _ =>  Nat.rec .kn (fun n _ =>  Nat.rec .ko (fun _n _ => .kp) n) n) n) n) n) n) n) n) n) n) n) n) n) n) n
def Jv (l : List A) (n : Nat) : A := Nat.rec (motive := fun _ => List A → A) (fun l => List.rec .junk (fun a _ _ => a) l) (fun _ ih l => List.rec .junk (fun _ r _ => ih r) l) n l
def Ke (t : Tr Blk) (n : Nat) : Option Blk := Tr.rec (motive := fun _ => Nat → Option Blk) (fun _ => none) (fun _ v _ ihl ihr n => Nat.rec v (fun m _ => cond (Nat.beq (Nat.land m 1) 0) (ihl (Nat.shiftRight m 1)) (ihr (Nat.shiftRight m 1))) n) t n
def Aco (x : Option Blk) (f : List A → A) : A := Option.rec (motive := fun _ => (List A → A) → A) (fun _ => .junk) (fun x f => Blk.rec (motive := fun _ => (List A → A) → A) (fun cs _ f => f cs) (fun _ _ _ => .junk) (fun _ _ _ => .junk) (fun _ _ _ _ _ => .junk) x f) x f
def Rx (σ : St) (b : Nat) (f : List A → A) : A := Aco (Ke σ.blks b) f
def vi (k : IntKind) (z : Int) : A := .v (.int k z)
def fnA (f : Fn) (a c : List A) : A := match f with | .func g => .fn (.func g) a c | _ => .junk
def Gx (l : List UInt8) : Nat → Nat → Nat → Nat → Nat := List.rec (motive := fun _ => Nat → Nat → Nat → Nat → Nat) (fun _ acc I big => Nat.add big (Nat.shiftLeft acc I))
 (fun b _ ih i acc I big => cond (Nat.beq i 248) (Nat.rec (ih 0 0 (Nat.add I 256) 0) (fun m _ => ih 0 0 (Nat.add I 256) (Nat.succ m)) (Nat.add big (Nat.shiftLeft (Nat.add acc (Nat.shiftLeft b.toNat i)) I)))
  (Nat.rec (ih (Nat.add i 8) 0 I big) (fun m _ => ih (Nat.add i 8) (Nat.succ m) I big) (Nat.add acc (Nat.shiftLeft b.toNat i)))) l
def Fe (s : ByteArray) : Nat := Gx s.data.toList 0 0 0 0
def S3 (l : List UInt8) : Nat → Nat := List.rec (motive := fun _ => Nat → Nat) (fun n => n) (fun _ _ ih n => Nat.rec 0 (fun m _ => ih (Nat.succ m)) (Nat.succ n)) l
def Dt (s : ByteArray) : Nat := S3 s.data.toList 0
def Vn (s : ByteArray) (i : Nat) : Nat := Nat.land (Nat.shiftRight (Fe s) (Nat.mul i 8)) 255
def Ls (N : Nat) (n : Nat) (i : Nat) (K : List UInt8 → A) : A := Nat.rec (motive := fun _ => Nat → (List UInt8 → A) → A) (fun _ K => K []) (fun _ ih i K => ih (Nat.add i 8) fun l => K (UInt8.ofNat (Nat.land (Nat.shiftRight N i) 255) :: l)) n i K
abbrev RX := Option (X × FF × St)
abbrev KA := A → St → RX
def eI (x : A) (f : IntKind → Int → A) : A := A.rec (motive_1 := fun _ => (IntKind → Int → A) → A) (motive_2 := fun _ => Unit) (fun u f => Value.rec (motive_1 := fun _ => (IntKind → Int → A) → A) (motive_2 := fun _ => Unit) (motive_3 := fun _ => Unit) (fun _ _ => .junk) (fun k n f => f k n) (fun _ _ _ => .junk) (fun _ _ _ _ => .junk) (fun _ _ => .junk) (fun _ _ => .junk) (fun _ _ _ _ => .junk) (fun _ _ => .junk) (fun _ _ => .junk) (fun _ _ _ _ _ _ => .junk) (fun _ => .junk) (fun _ _ _ _ => .junk) (fun _ => .junk) (fun _ _ _ => .junk) (fun _ _ _ => .junk) (fun _ _ => ()) () (fun _ _ _ _ => ()) u f) (fun _ _ _ => .junk) (fun _ _ _ _ _ => .junk) (fun _ _ _ _ _ => .junk) (fun _ _ _ _ _ => .junk) (fun _ _ => .junk) (fun _ _ _ _ _ _ => .junk) (fun _ _ _ _ => .junk) (fun _ _ _ => .junk) (fun _ _ _ => .junk) (fun _ _ _ => .junk) (fun _ => .junk) () (fun _ _ _ _ => ()) x f
def eB (x : A) (f : Bool → A) : A := A.rec (motive_1 := fun _ => (Bool → A) → A) (motive_2 := fun _ => Unit) (fun u f => Value.rec (motive_1 := fun _ => (Bool → A) → A) (motive_2 := fun _ => Unit) (motive_3 := fun _ => Unit) (fun b f => f b) (fun _ _ _ => .junk) (fun _ _ _ => .junk) (fun _ _ _ _ => .junk) (fun _ _ => .junk) (fun _ _ => .junk) (fun _ _ _ _ => .junk) (fun _ _ => .junk) (fun _ _ => .junk) (fun _ _ _ _ _ _ => .junk) (fun _ => .junk) (fun _ _ _ _ => .junk) (fun _ => .junk) (fun _ _ _ => .junk) (fun _ _ _ => .junk) (fun _ _ => ()) () (fun _ _ _ _ => ()) u f) (fun _ _ _ => .junk) (fun _ _ _ _ _ => .junk) (fun _ _ _ _ _ => .junk) (fun _ _ _ _ _ => .junk) (fun _ _ => .junk) (fun _ _ _ _ _ _ => .junk) (fun _ _ _ _ => .junk) (fun _ _ _ => .junk) (fun _ _ _ => .junk) (fun _ _ _ => .junk) (fun _ => .junk) () (fun _ _ _ _ => ()) x f
def eS (x : A) (f : ByteArray → A) : A := A.rec (motive_1 := fun _ => (ByteArray → A) → A) (motive_2 := fun _ => Unit) (fun u f => Value.rec (motive_1 := fun _ => (ByteArray → A) → A) (motive_2 := fun _ => Unit) (motive_3 := fun _ => Unit) (fun _ _ => .junk) (fun _ _ _ => .junk) (fun _ _ _ => .junk) (fun _ _ _ _ => .junk) (fun s f => f s) (fun _ _ => .junk) (fun _ _ _ _ => .junk) (fun _ _ => .junk) (fun _ _ => .junk) (fun _ _ _ _ _ _ => .junk) (fun _ => .junk) (fun _ _ _ _ => .junk) (fun _ => .junk) (fun _ _ _ => .junk) (fun _ _ _ => .junk) (fun _ _ => ()) () (fun _ _ _ _ => ()) u f) (fun _ _ _ => .junk) (fun _ _ _ _ _ => .junk) (fun _ _ _ _ _ => .junk) (fun _ _ _ _ _ => .junk) (fun _ _ => .junk) (fun _ _ _ _ _ _ => .junk) (fun _ _ _ _ => .junk) (fun _ _ _ => .junk) (fun _ _ _ => .junk) (fun _ _ _ => .junk) (fun _ => .junk) () (fun _ _ _ _ => ()) x f
def Vo (x : A) (a b : RX) : RX := A.rec (motive_1 := fun _ => RX → RX → RX) (motive_2 := fun _ => Unit) (fun u y z => Value.rec (motive_1 := fun _ => RX → RX → RX) (motive_2 := fun _ => Unit) (motive_3 := fun _ => Unit) (fun b y z => cond b y z) (fun _ _ _ _ => none) (fun _ _ _ _ => none) (fun _ _ _ _ _ => none) (fun _ _ _ => none) (fun _ _ _ => none) (fun _ _ _ _ _ => none) (fun _ _ _ => none) (fun _ _ _ => none) (fun _ _ _ _ _ _ _ => none) (fun _ _ => none) (fun _ _ _ _ _ => none) (fun _ _ => none) (fun _ _ _ _ => none) (fun _ _ _ _ => none) (fun _ _ => ()) () (fun _ _ _ _ => ()) u y z) (fun _ _ _ _ => none) (fun _ _ _ _ _ _ => none) (fun _ _ _ _ _ _ => none) (fun _ _ _ _ _ _ => none) (fun _ _ _ => none) (fun _ _ _ _ _ _ _ => none) (fun _ _ _ _ _ => none) (fun _ _ _ _ => none) (fun _ _ _ _ => none) (fun _ _ _ _ => none) (fun _ _ => none) () (fun _ _ _ _ => ()) x a b
def Lt (x : A) (K : A → RX) (e : RX) : RX := A.rec (motive_1 := fun _ => (A → RX) → RX → RX) (motive_2 := fun _ => Unit) (fun u K _ => K (.v u)) (fun b o K _ => K (.ptr b o)) (fun cs o ap _ K _ => K (.sp cs o ap)) (fun sz cs ap _ K _ => K (.sl sz cs ap)) (fun b o len cap K _ => K (.ms b o len cap)) (fun b K _ => K (.mp b)) (fun f first cap _ _ K _ => K (.fn f first cap)) (fun t x _ K _ => K (.ifc t x)) (fun cs _ K _ => K (.agg cs)) (fun vs _ K _ => K (.tup vs)) (fun id len K _ => K (.raw id len)) (fun _ e => e) () (fun _ _ _ _ => ()) x K e
def Acp (x : A) (y : RX) : RX := A.rec (motive_1 := fun _ => RX → RX) (motive_2 := fun _ => Unit) (fun _u y => y) (fun _b _o y => y) (fun _cs _o _ap _ y => y) (fun _sz _cs _ap _ y => y) (fun _b _o _len _cap y => y) (fun _b y => y) (fun _f _first _cap _ _ y => y) (fun _t _x _ y => y) (fun _ _ _ => none) (fun _ _ _ => none) (fun _id _len y => y) (fun _ => none) () (fun _ _ _ _ => ()) x y
def Ry (x : A) : Bool := A.rec (motive_1 := fun _ => Bool) (motive_2 := fun _ => Unit) (fun _u => true) (fun _b _o => true) (fun _cs _o _ap _ => true) (fun _sz _cs _ap _ => true) (fun _b _o _len _cap => true) (fun _b => true) (fun _f _first _cap _ _ => true) (fun _t _x _ => true) (fun _ _ => false) (fun _ _ => false) (fun _id _len => true) (false) () (fun _ _ _ _ => ()) x
def ePtr (x : A) (f : Nat → Nat → RX) : RX := A.rec (motive_1 := fun _ => (Nat → Nat → RX) → RX) (motive_2 := fun _ => Unit) (fun _ _ => none) (fun b o f => f b o) (fun _ _ _ _ _ => none) (fun _ _ _ _ _ => none) (fun _ _ _ _ _ => none) (fun _ _ => none) (fun _ _ _ _ _ _ => none) (fun _ _ _ _ => none) (fun _ _ _ => none) (fun _ _ _ => none) (fun _ _ _ => none) (fun _ => none) () (fun _ _ _ _ => ()) x f
def P6 (x : A) (σ : St) (f : List A → Nat → A) : A := A.rec (motive_1 := fun _ => St → (List A → Nat → A) → A) (motive_2 := fun _ => Unit) (fun _ _ _ => .junk) (fun b o σ f => Rx σ b fun cs => f cs o) (fun cs o _ap _ _σ f => f cs o) (fun _ _ _ _ _ _ => .junk) (fun _ _ _ _ _ _ => .junk) (fun _ _ _ => .junk) (fun _ _ _ _ _ _ _ => .junk) (fun _ _ _ _ _ => .junk) (fun _ _ _ _ => .junk) (fun _ _ _ _ => .junk) (fun _ _ _ _ => .junk) (fun _ _ => .junk) () (fun _ _ _ _ => ()) x σ f
def fldA (off : Nat) (x : A) : A := A.rec (motive_1 := fun _ => Nat → A) (motive_2 := fun _ => Unit) (fun _ _ => .junk) (fun b o off => .ptr b (Nat.add o off)) (fun cs o _ap _ off => .sp cs (Nat.add o off) .no) (fun _ _ _ _ _ => .junk) (fun _ _ _ _ _ => .junk) (fun _ _ => .junk) (fun _ _ _ _ _ _ => .junk) (fun _ _ _ _ => .junk) (fun _ _ _ => .junk) (fun _ _ _ => .junk) (fun _ _ _ => .junk) (fun _ => .junk) () (fun _ _ _ _ => ()) x off
def nilA (x : A) : A := A.rec (motive_1 := fun _ => A) (motive_2 := fun _ => Unit) (fun _ => .junk) (fun b o => .ptr b o) (fun cs o ap _ => .sp cs o ap) (fun sz cs ap _ => .sl sz cs ap) (fun b o len cap => .ms b o len cap) (fun b => .mp b) (fun f first cap _ _ => fnA f first cap) (fun t x _ => .ifc t x) (fun cs _ => .agg cs) (fun vs _ => .tup vs) (fun id len => .raw id len) (.junk) () (fun _ _ _ _ => ()) x
def Aby (x : A) : A := A.rec (motive_1 := fun _ => A) (motive_2 := fun _ => Unit) (fun _ => .junk) (fun _ _ => .junk) (fun _ _ _ _ => .junk) (fun sz cs _ap _ => vi .i64 (Int.ofNat (Nat.div cs.length sz))) (fun _b _o len _cap => vi .i64 (Int.ofNat len)) (fun _ => .junk) (fun _ _ _ _ _ => .junk) (fun _ _ _ => .junk) (fun _ _ => .junk) (fun _ _ => .junk) (fun _ _ => .junk) (.junk) () (fun _ _ _ _ => ()) x
def Abz (x : A) : A := A.rec (motive_1 := fun _ => A) (motive_2 := fun _ => Unit) (fun u => Value.rec (motive_1 := fun _ => A) (motive_2 := fun _ => Unit) (motive_3 := fun _ => Unit) (fun _ => .junk) (fun _ _ => .junk) (fun _ _ => .junk) (fun _ _ _ => .junk) (fun s => vi .i64 (Int.ofNat (Dt s))) (fun _ => .junk) (fun _ _ _ => .junk) (fun _ => .junk) (fun _ => .junk) (fun _ _ _ _ _ => .junk) (.junk) (fun _ _ _ => .junk) (.junk) (fun _ _ => .junk) (fun _ _ => .junk) (fun _ _ => ()) () (fun _ _ _ _ => ()) u) (fun _ _ => .junk) (fun _ _ _ _ => .junk) (fun _ _ _ _ => .junk) (fun _ _ _ _ => .junk) (fun _ => .junk) (fun _ _ _ _ _ => .junk) (fun _ _ _ => .junk) (fun _ _ => .junk) (fun _ _ => .junk) (fun _ _ => .junk) (.junk) () (fun _ _ _ _ => ()) x
def iaA (sz n : Nat) (x : A) : A := A.rec (motive_1 := fun _ => Nat → Nat → A) (motive_2 := fun _ => Unit) (fun _ _ _ => .junk) (fun _ _ _ _ => .junk) (fun _ _ _ _ _ _ => .junk) (fun sz cs _ap _ z n => cond (Nat.beq sz z) (cond (Nat.ble 1 z) (cond (Nat.ble (Nat.succ n) (Nat.div cs.length z)) (.sp cs (Nat.mul n z) .no) .junk) .junk) .junk) (fun b o len _cap z n => cond (Nat.ble (Nat.succ n) len) (.ptr b (Nat.add o (Nat.mul n z))) .junk) (fun _ _ _ => .junk) (fun _ _ _ _ _ _ _ => .junk) (fun _ _ _ _ _ => .junk) (fun _ _ _ _ => .junk) (fun _ _ _ _ => .junk) (fun _ _ _ _ => .junk) (fun _ _ => .junk) () (fun _ _ _ _ => ()) x sz n
def iapA (sz n : Nat) (x : A) : A := A.rec (motive_1 := fun _ => Nat → Nat → A) (motive_2 := fun _ => Unit) (fun _ _ _ => .junk) (fun b o z n => .ptr b (Nat.add o (Nat.mul n z))) (fun cs o _ap _ z n => .sp cs (Nat.add o (Nat.mul n z)) .no) (fun _ _ _ _ _ _ => .junk) (fun _ _ _ _ _ _ => .junk) (fun _ _ _ => .junk) (fun _ _ _ _ _ _ _ => .junk) (fun _ _ _ _ _ => .junk) (fun _ _ _ _ => .junk) (fun _ _ _ _ => .junk) (fun _ _ _ _ => .junk) (fun _ _ => .junk) () (fun _ _ _ _ => ()) x sz n
def extA (i : Nat) (x : A) : A := A.rec (motive_1 := fun _ => Nat → A) (motive_2 := fun _ => Unit) (fun _ _ => .junk) (fun _ _ _ => .junk) (fun _ _ _ _ _ => .junk) (fun _ _ _ _ _ => .junk) (fun _ _ _ _ _ => .junk) (fun _ _ => .junk) (fun _ _ _ _ _ _ => .junk) (fun _ _ _ _ => .junk) (fun _ _ _ => .junk) (fun vs _ i => Jv vs i) (fun _ _ _ => .junk) (fun _ => .junk) () (fun _ _ _ _ => ()) x i
def grdA (w : Bool) (x y : A) : A := A.rec (motive_1 := fun _ => Bool → A → A) (motive_2 := fun _ => Unit) (fun u w y => Value.rec (motive_1 := fun _ => Bool → A → A) (motive_2 := fun _ => Unit) (motive_3 := fun _ => Unit) (fun b w y => cond (Bool.rec (not b) b w) y und) (fun _ _ _ _ => und) (fun _ _ _ _ => und) (fun _ _ _ _ _ => und) (fun _ _ _ => und) (fun _ _ _ => und) (fun _ _ _ _ _ => und) (fun _ _ _ => und) (fun _ _ _ => und) (fun _ _ _ _ _ _ _ => und) (fun _ _ => und) (fun _ _ _ _ _ => und) (fun _ _ => und) (fun _ _ _ _ => und) (fun _ _ _ _ => und) (fun _ _ => ()) () (fun _ _ _ _ => ()) u w y) (fun _ _ _ _ => und) (fun _ _ _ _ _ _ => und) (fun _ _ _ _ _ _ => und) (fun _ _ _ _ _ _ => und) (fun _ _ _ => und) (fun _ _ _ _ _ _ _ => und) (fun _ _ _ _ _ => und) (fun _ _ _ _ => und) (fun _ _ _ _ => und) (fun _ _ _ _ => und) (fun _w _y => .junk) () (fun _ _ _ _ => ()) x w y
def fldV (off : Nat) (x : A) : A := A.rec (motive_1 := fun _ => Nat → A) (motive_2 := fun _ => Unit) (fun _ _ => .junk) (fun _ _ _ => .junk) (fun _ _ _ _ _ => .junk) (fun _ _ _ _ _ => .junk) (fun _ _ _ _ _ => .junk) (fun _ _ => .junk) (fun _ _ _ _ _ _ => .junk) (fun _ _ _ _ => .junk) (fun cs _ off => Jv cs off) (fun _ _ _ => .junk) (fun _ _ _ => .junk) (fun _ => .junk) () (fun _ _ _ _ => ()) x off
inductive Src where
 | t (i j : D16)
 | l (k : Nat)
 | c (x : A)
def get (s : Src) (ws : List A) (φ : FF) : A := Src.rec (motive := fun _ => List A → FF → A) (fun i j _ φ => P5 j (Lr i φ)) (fun k ws _ => Jv ws k) (fun x _ _ => x) s ws φ
def slt (n : Nat) : Src := .t (dig (Nat.land n 15)) (dig (Nat.shiftRight n 4))
def setF (s : Src) (x : A) (φ : FF) : FF := Src.rec (motive := fun _ => A → FF → FF) (fun i j x φ => Vm i φ (Vl j (Lr i φ) x)) (fun _ _ φ => φ) (fun _ _ φ => φ) s x φ
def kn (k : IntKind) : Nat := IntKind.rec 0 1 2 3 4 5 6 7 k
def E1 (k : IntKind) : Nat := IntKind.rec 127 32767 2147483647 9223372036854775807 255 65535 4294967295 18446744073709551615 k
def sgn (k : IntKind) : Bool := IntKind.rec true true true true false false false false k
def wrapP (k : IntKind) (n : Nat) : A := cond (Nat.ble n (E1 k)) (.v (.int k (.ofNat n))) (.v (.int k (IntKind.wrap k (.ofNat n))))
def P7 (k : IntKind) (n : Nat) : A := cond (sgn k) (cond (Nat.ble n (E1 k)) (.v (.int k (.negSucc n))) (.v (.int k (IntKind.wrap k (.negSucc n))))) (.v (.int k (IntKind.wrap k (.negSucc n))))
def Hs (k : IntKind) (z : Int) : A := Int.rec (motive := fun _ => IntKind → A) (fun n k => wrapP k n) (fun n k => P7 k n) z k
def Gy (x y : Int) (f : Nat → Nat → A) (e : A) : A := Int.rec (motive := fun _ => Int → (Nat → Nat → A) → A → A) (fun m y f e => Int.rec (motive := fun _ => Nat → (Nat → Nat → A) → A → A) (fun n m f _ => f m n) (fun _ _ _ e => e) y m f e) (fun _ _ _ e => e) x y f e
def leI (x y : Int) : Bool := Int.rec (motive := fun _ => Int → Bool) (fun m y => Int.rec (motive := fun _ => Nat → Bool) (fun n m => Nat.ble m n) (fun _ _ => false) y m) (fun m y => Int.rec (motive := fun _ => Nat → Bool) (fun _ _ => true) (fun n m => Nat.ble n m) y m) x y
def eqI (x y : Int) : Bool := Int.rec (motive := fun _ => Int → Bool) (fun m y => Int.rec (motive := fun _ => Nat → Bool) (fun n m => Nat.beq m n) (fun _ _ => false) y m) (fun m y => Int.rec (motive := fun _ => Nat → Bool) (fun _ _ => false) (fun n m => Nat.beq m n) y m) x y
def tt : A := .v (.bool true)
def ff : A := .v (.bool false)
inductive BO where
 | add | sub | mul | quo | rem | and | or | xor | eq | ne | lt | le | gt | ge | shl | shr
def addG (k : IntKind) (x y : Int) : A := Gy x y (fun m n => wrapP k (Nat.add m n)) (Hs k (Int.add x y))
def subG (k : IntKind) (x y : Int) : A := Gy x y (fun m n => cond (Nat.ble n m) (wrapP k (Nat.sub m n)) (P7 k (Nat.pred (Nat.sub n m)))) (Hs k (Int.sub x y))
def Acq (k : IntKind) (x y : Int) : A := Gy x y (fun m n => wrapP k (Nat.mul m n)) (Hs k (Int.mul x y))
def Acr (k : IntKind) (x y : Int) : A := Gy x y (fun m n => cond (Nat.ble 1 n) (wrapP k (Nat.div m n)) .junk) .junk
def Acs (k : IntKind) (x y : Int) : A := Gy x y (fun m n => cond (Nat.ble 1 n) (.v (.int k (.ofNat (Nat.mod m n)))) .junk) .junk
def Vp (f : Nat → Nat → Nat) (k : IntKind) (x y : Int) : A := Gy x y (fun m n => cond (Nat.ble m (E1 k)) (cond (Nat.ble n (E1 k)) (.v (.int k (.ofNat (f m n)))) .junk) .junk) .junk
def eqG (_ : IntKind) (x y : Int) : A := cond (eqI x y) tt ff
def neG (_ : IntKind) (x y : Int) : A := cond (eqI x y) ff tt
def ltG (_ : IntKind) (x y : Int) : A := cond (leI y x) ff tt
def leG (_ : IntKind) (x y : Int) : A := cond (leI x y) tt ff
def gtG (_ : IntKind) (x y : Int) : A := cond (leI x y) ff tt
def geG (_ : IntKind) (x y : Int) : A := cond (leI y x) tt ff
def Lu (k : IntKind) : Nat := IntKind.rec 8 16 32 64 8 16 32 64 k
def Acu (k : IntKind) (x y : Int) : A := Gy x y (fun m n => cond (Nat.ble n (Lu k)) (wrapP k (Nat.shiftLeft m n)) .junk) .junk
def Acv (k : IntKind) (x y : Int) : A := Gy x y (fun m n => cond (Nat.ble n (Lu k)) (.v (.int k (.ofNat (Nat.shiftRight m n)))) .junk) .junk
def Xg (b : BO) : IntKind → Int → Int → A := BO.rec (motive := fun _ => IntKind → Int → Int → A) addG subG Acq Acr Acs (Vp Nat.land) (Vp Nat.lor) (Vp Nat.xor) eqG neG ltG leG gtG geG Acu Acv b
def Xh (b : BO) (x y : A) : A := eI x fun k n => eI y fun k' m => cond (Nat.beq (kn k) (kn k')) (Xg b k n m) .junk
def shA (b : BO) (x y : A) : A := eI x fun k n => eI y fun _ m => Xg b k n m
def notA (x : A) : A := eB x fun b => cond b ff tt
def Acw (x i : A) : A := eI i fun _ z => Gy z 0 (fun n _ => eS x fun s => cond (Nat.ble (Nat.succ n) (Dt s)) (vi .u8 (.ofNat (Vn s n))) .junk) .junk
def Vq (x l h : A) : A := eS x fun s => eI l fun _ l => eI h fun _ h => Gy l h (fun l h => cond (Nat.ble h (Dt s)) (cond (Nat.ble l h) (Ls (Fe s) (Nat.sub h l) (Nat.mul l 8) fun bs => .v (.string ⟨⟨bs⟩⟩)) .junk) .junk) .junk
def Acx (w : Bool) (x y : A) : A := eS x fun s => eS y fun t => cond (Nat.beq (Dt s) (Dt t)) (cond (Nat.beq (Fe s) (Fe t)) (cond w ff tt) (cond w tt ff)) (cond w tt ff)
inductive FP where
 | mv (x : Src)
 | bin (b : BO) (x y : Src)
 | sh (b : BO) (x y : Src)
 | not (x : Src)
 | ld (x : Src)
 | ldA (n : Nat) (x : Src)
 | fld (off : Nat) (x : Src)
 | nilc (x : Src)
 | len (x : Src)
 | lent (x : Src)
 | ia (sz : Nat) (x i : Src)
 | iap (sz n : Nat) (x i : Src)
 | ixs (x i : Src)
 | pick (c a b : Src)
 | ext (i : Nat) (x : Src)
 | cvt (k : IntKind) (x : Src)
 | subs (x lo hi : Src)
 | fldv (off : Nat) (x : Src)
 | eqs (w : Bool) (x y : Src)
 | grd (g : Src) (w : Bool) (e : FP)
abbrev EP := List A → FF → St → A
def evP (e : FP) : EP := FP.rec (motive := fun _ => EP)
 (fun x ws φ _ => get x ws φ)
 (fun b x y ws φ _ => Xh b (get x ws φ) (get y ws φ))
 (fun b x y ws φ _ => shA b (get x ws φ) (get y ws φ))
 (fun x ws φ _ => notA (get x ws φ))
 (fun x ws φ σ => P6 (get x ws φ) σ Jv)
 (fun n x ws φ σ => P6 (get x ws φ) σ fun cs o => cond (Nat.ble (Nat.add o n) cs.length) (.agg ((cs.drop o).take n)) .junk)
 (fun off x ws φ _ => fldA off (get x ws φ))
 (fun x ws φ _ => nilA (get x ws φ))
 (fun x ws φ _ => Aby (get x ws φ))
 (fun x ws φ _ => Abz (get x ws φ))
 (fun sz x i ws φ _ => eI (get i ws φ) fun _ z => Gy z 0 (fun n _ => iaA sz n (get x ws φ)) .junk)
 (fun sz len x i ws φ _ => eI (get i ws φ) fun _ z => Gy z 0 (fun n _ => cond (Nat.ble (Nat.succ n) len) (iapA sz n (get x ws φ)) .junk) .junk)
 (fun x i ws φ _ => Acw (get x ws φ) (get i ws φ))
 (fun c a b ws φ _ => eB (get c ws φ) fun t => cond t (get a ws φ) (get b ws φ))
 (fun i x ws φ _ => extA i (get x ws φ))
 (fun k x ws φ _ => eI (get x ws φ) fun _ z => Hs k z)
 (fun x lo hi ws φ _ => Vq (get x ws φ) (get lo ws φ) (get hi ws φ))
 (fun off x ws φ _ => fldV off (get x ws φ))
 (fun w x y ws φ _ => Acx w (get x ws φ) (get y ws φ))
 (fun g w _ ih ws φ σ => grdA w (get g ws φ) (ih ws φ σ)) e
inductive FX where
 | st (x y : Src)
 | call (f : FuncId) (xs : List Src)
 | callv (x : Src) (xs : List Src)
 | box (e : TypeId) (x : Src)
 | alloc (z : List A) (e : TypeId)
 | gen (o : Oper) (xs : List (Tmp × Src))
 | grd (g : Src) (w : Bool) (o : FX)
inductive FL where
 | nil
 | p (e : FP) (g : Option FX) (r : FL)
 | pw (e : FP) (s : Src) (g : Option FX) (r : FL)
 | x (o : FX) (r : FL)
 | xw (o : FX) (s : Src) (r : FL)
inductive FC where
 | skip
 | ops (l : FL)
 | opsO (l : FL)
 | slow (d : Bool) (n : Nat) (ops : Array Oper) (L : List Nat)
 | seq (a b : FC)
 | cond (x : Src) (a b : FC)
 | block (id : Nat) (a : FC)
 | loop (a : FC)
 | exit (id : Nat)
 | ret
 | bad

def I0 (l : List A) (n : Nat) (x : A) : List A :=
 Nat.rec (motive := fun _ => List A → A → List A) (fun l x => List.rec (motive := fun _ => A → List A) (fun _ => []) (fun _ r _ x => x :: r) l x) (fun _ ih l x => List.rec (motive := fun _ => (List A → A → List A) → A → List A) (fun _ _ => []) (fun a r _ ih x => a :: ih r x) l ih x) n l x
def P8 (l : List A) (n : Nat) : Bool := Nat.rec (motive := fun _ => List A → Bool) (fun l => List.rec false (fun _ _ _ => true) l) (fun _ ih l => List.rec false (fun _ r _ => ih r) l) n l
def Ht (x : Option Blk) (k : Nat) : Tr Blk → Nat → Tr Blk :=
 Nat.rec (motive := fun _ => Tr Blk → Nat → Tr Blk) (fun t _ => t)
  (fun _ ih t n => Tr.rec (motive := fun _ => Nat → Tr Blk)
   (fun n => Nat.rec (.node .nil x .nil) (fun m _ => cond (Nat.beq (Nat.land m 1) 0) (.node (ih .nil (Nat.shiftRight m 1)) none .nil) (.node .nil none (ih .nil (Nat.shiftRight m 1)))) n)
   (fun l v r _ _ n => Nat.rec (.node l x r) (fun m _ => cond (Nat.beq (Nat.land m 1) 0) (.node (ih l (Nat.shiftRight m 1)) v r) (.node l v (ih r (Nat.shiftRight m 1)))) n) t n) k
def Lv (b : Blk) (σ : St) (K : KA) : RX := K (.ptr σ.next 0) ⟨Ht (some b) (Nat.succ σ.next) σ.blks σ.next, Nat.succ σ.next, σ.toks, σ.nextT⟩

abbrev Stp := List A → FF → St → KA → RX
def Xi (xs : List Src) (ws : List A) (φ : FF) (K : List A → RX) : RX := List.rec (motive := fun _ => List A → FF → (List A → RX) → RX) (fun _ _ K => K []) (fun s _ ih ws φ K => Lt (get s ws φ) (fun a => ih ws φ fun l => K (a :: l)) none) xs ws φ K
def Acy (xs : List (Tmp × Src)) (ws : List A) (φ : FF) (K : List (Tmp × A) → RX) : RX := List.rec (motive := fun _ => List A → FF → (List (Tmp × A) → RX) → RX) (fun _ _ K => K []) (fun s _ ih ws φ K => Lt (get s.2 ws φ) (fun a => ih ws φ fun l => K ((s.1, a) :: l)) none) xs ws φ K
def Vr (C : Cfg) (l : List (Tmp × A)) : Operand → Option A
 | .tmp t => l.lookup t
 | .const v => Ee v
 | .global g => C.glob g
 | .func f => some (.fn (.func f) [] [])
def Jw (callF : CallF) (f : FuncId) (args : List A) (φ : FF) (σ : St) (K : KA) : RX := match callF f args σ with
 | some (.ret x, σ') => K x σ'
 | some (.pan x, σ') => some (.pan x, φ, σ')
 | none => none
def Vs (x : Option Blk) (b o : Nat) (v : A) (σ : St) (K : KA) : RX := Option.rec (motive := fun _ => RX) none (fun x => Blk.rec (motive := fun _ => RX) (fun cs e => cond (P8 cs o) (K und ⟨Ht (some (.cells (I0 cs o v) e)) (Nat.succ b) σ.blks b, σ.next, σ.toks, σ.nextT⟩) none) (fun _ _ => none) (fun _ _ => none) (fun _ _ _ _ => none) x) x
def sSt (x y : Src) : Stp := fun ws φ σ K => ePtr (get x ws φ) fun b o => Lt (get y ws φ) (fun v => Acp v (Vs (Ke σ.blks b) b o v σ K)) none
def Ab0 (callF : CallF) (f : FuncId) (xs : List Src) : Stp := fun ws φ σ K => Xi xs ws φ fun l => Jw callF f l φ σ K
def Ff (C : Cfg) (f : FuncId) : Bool := match C.P.funcs[f]? with
 | some fn => !(fn.name == "runtime.NumGoroutine") && fn.body.isSome
 | none => false
def Rz (C : Cfg) (callF : CallF) (x : Src) (xs : List Src) : Stp := fun ws φ σ K => match get x ws φ with
 | .fn (.func g) a c => cond (Ff C g) (Xi xs ws φ fun l => Jw callF g (a ++ l ++ c) φ σ K) none
 | _ => none
def I1 (l : List A) : Bool := List.rec true (fun a _ ih => cond (Ry a) ih false) l
def Acz (e : TypeId) (x : Src) : Stp := fun ws φ σ K => Lt (get x ws φ) (fun a => match a with
 | .agg cs => cond (I1 cs) (Lv (.cells cs e) σ K) none
 | .tup _ => none
 | a => Lv (.cells [a] e) σ K) none
def R2 (z : List A) (e : TypeId) : Stp := fun _ _ σ K => Lv (.cells z e) σ K
def Om : Src := .t .kp .kp
def Ac0 (C : Cfg) (callF : CallF) (o : Oper) (xs : List (Tmp × Src)) : Stp := fun ws φ σ K => Acy xs ws φ fun l => match op C (Vr C l) o σ with
   | some (.val x σ') => K x σ'
   | some (.skip σ') => K und σ'
   | some (.call f args σ') => Jw callF f args φ σ' K
   | some (.pan x σ') => some (.pan x, φ, σ')
   | _ => none
def Ac1 (g : Src) (w : Bool) (_ : FX) (ih : Stp) : Stp := fun ws φ σ K => match get g ws φ with
  | .v (.bool b) => cond (Bool.rec (!b) b w) (ih ws φ σ K) (K und σ)
  | .junk => none
  | _ => K und σ
def step (C : Cfg) (callF : CallF) (o : FX) : Stp := FX.rec (motive := fun _ => Stp) sSt (Ab0 callF) (Rz C callF) Acz R2 (Ac0 C callF) Ac1 o
def Vt (C : Cfg) (callF : CallF) (g : Option FX) (ws : List A) (φ : FF) (σ : St) (K : KA) : RX := match g with
 | some o => step C callF o ws φ σ K
 | none => none
def H4 (C : Cfg) (callF : CallF) (l : FL) : List A → FF → St → RX := FL.rec (motive := fun _ => List A → FF → St → RX) (fun _ φ σ => some (.normal, φ, σ))
 (fun e g _ ih ws φ σ => Lt (evP e ws φ σ) (fun x => ih (x :: ws) φ σ) (Vt C callF g ws φ σ fun x σ' => ih (x :: ws) φ σ'))
 (fun e s g _ ih ws φ σ => Lt (evP e ws φ σ) (fun x => ih (x :: ws) (setF s x φ) σ) (Vt C callF g ws φ σ fun x σ' => ih (x :: ws) (setF s x φ) σ'))
 (fun o _ ih ws φ σ => step C callF o ws φ σ fun x σ' => ih (x :: ws) φ σ')
 (fun o s _ ih ws φ σ => step C callF o ws φ σ fun x σ' => ih (x :: ws) (setF s x φ) σ') l
def Gz (r : RX) (K : FF → St → RX) : RX := match r with
 | some (.normal, φ, σ) => K φ σ
 | r => r
def Vu (r : RX) (id : Nat) : RX := match r with
 | some (.exit j, φ, σ) => cond (Nat.beq j id) (some (.normal, φ, σ)) (some (.exit j, φ, σ))
 | r => r
def R3 (φ : FF) (t : Nat) : Option A := cond (Nat.ble (Nat.succ t) 255) (let x := get (slt t) [] φ; if Nt x then none else some x) none
def H5 (φ : FF) : List (FuncId × List A) := match get Om [] φ with
 | .tup l => l.filterMap fun | .fn (.func f) a _ => some (f, a) | _ => none
 | _ => []
def dsA (l : List (FuncId × List A)) : A := match l with
 | [] => .junk
 | l => .tup (l.map fun x => .fn (.func x.1) x.2 [])
def S4 (l : List (FuncId × List A)) (φ : FF) : FF := setF Om (dsA l) φ
def Xj (φ : FF) (l : List Nat) : Fr := ⟨l.foldr (fun t T => match R3 φ t with | some a => T.set t a | none => T) .nil, H5 φ⟩
def S5 (ψ : Fr) (l : List Nat) (φ : FF) : FF := S4 ψ.ds (l.foldl (fun φ t => setF (slt t) ((ψ.s.get t).getD .junk) φ) φ)
def Ab1 (r : Option (X × Fr × St)) (l : List Nat) (φ : FF) : RX := match r with
 | some (x, ψ, σ') => some (x, S5 ψ l φ, σ')
 | none => none
def S6 (C : Cfg) (callF : CallF) (d : Bool) (n : Nat) (ops : Array Oper) (L : List Nat) (φ : FF) (σ : St) : RX :=
 Ab1 (if d then Db C callF n ops (Xj φ L) σ else Aw C callF n ops ops.toList (Xj φ L) σ) L φ
def Ab2 (r : RX) : RX := match r with
 | some (.pan _, _, _) => none
 | r => r
def H6 (C : Cfg) (callF : CallF) : Nat → FC → FF → St → RX := Nat.rec (motive := fun _ => FC → FF → St → RX) (fun _ _ _ => none) fun _ ih c φ σ =>
 FC.rec (motive := fun _ => (FC → FF → St → RX) → FF → St → RX) (fun _ φ σ => some (.normal, φ, σ)) (fun l _ φ σ => H4 C callF l [] φ σ) (fun l _ φ σ => Ab2 (H4 C callF l [] φ σ)) (fun d n ops L _ φ σ => S6 C callF d n ops L φ σ) (fun a b _ _ ih φ σ => Gz (ih a φ σ) (ih b))
  (fun x a b _ _ ih φ σ => Vo (get x [] φ) (ih a φ σ) (ih b φ σ)) (fun id a _ ih φ σ => Vu (ih a φ σ) id) (fun a _ ih φ σ => Gz (ih a φ σ) (ih (.loop a))) (fun id _ φ σ => some (.exit id, φ, σ)) (fun _ φ σ => some (.ret, φ, σ)) (fun _ _ _ => none) c ih φ σ

inductive AL where
 | loc (i : Nat)
 | con (x : A)
def Vv (t : Nat) : Src := if t < 255 then slt t else .c .junk
def Gm (C : Cfg) (al : List (Tmp × AL)) (n : Nat) : Operand → Src
 | .tmp t => match al.lookup t with
  | some (.loc i) => .l (n - 1 - i)
  | some (.con a) => .c a
  | none => Vv t
 | .const v => match Ee v with
  | some a => .c a
  | none => .c .junk
 | .global g => match C.glob g with
  | some a => .c a
  | none => .c .junk
 | .func f => .c (.fn (.func f) [] [])
def Kf (o : Oper) : List Tmp := o.op.operands.toList.filterMap fun | .tmp t => some t | _ => none
def Ac2 : BinOp → Option BO
 | .add => some .add | .sub => some .sub | .mul => some .mul | .quo => some .quo | .rem => some .rem | .and => some .and | .or => some .or | .xor => some .xor
 | .eql => some .eq | .neq => some .ne | .lss => some .lt | .leq => some .le | .gtr => some .gt | .geq => some .ge | _ => none
inductive CO where
 | p (e : FP)
 | x (o : FX)
def cOp (C : Cfg) (S : Operand → Src) (o : Oper) (xs : List (Tmp × Src)) : CO :=
 let g : CO := .x (.gen o xs)
 match o.op with
  | .move x | .assign x => .p (.mv (S x))
  | .binOp b t x y _ => match b with
   | .shl => .p (.sh .shl (S x) (S y))
   | .shr => .p (.sh .shr (S x) (S y))
   | _ => match C.P.underlying t, Ac2 b with
    | some (.int _), some b => .p (.bin b (S x) (S y))
    | some .string, some .eq => .p (.eqs false (S x) (S y))
    | some .string, some .ne => .p (.eqs true (S x) (S y))
    | _, _ => g
  | .unOp .not _ x => .p (.not (S x))
  | .load t x => match Ef C.P t, C.P.info? t with
   | some false, some _ => .p (.ld (S x))
   | some true, some i => .p (.ldA i.size (S x))
   | _, _ => g
  | .store t a x => match Ef C.P t, Al C.P t with
   | some false, some 1 => .x (.st (S a) (S x))
   | _, _ => g
  | .fieldAddr s x f => match C.P.underlying s with
   | some (.struct fs) => match fs[f]? with
    | some fd => match Al C.P fd.type with
     | some n => if n = 0 then g else .p (.fld fd.offset (S x))
     | none => g
    | none => g
   | _ => g
  | .field s x f => match C.P.underlying s with
   | some (.struct fs) => match fs[f]? with
    | some fd => match Ef C.P fd.type with
     | some false => .p (.fldv fd.offset (S x))
     | _ => g
    | none => g
   | _ => g
  | .nilCheck x => .p (.nilc (S x))
  | .indexAddr t x i => match C.P.underlying t with
   | some (.slice e) => match Al C.P e with
    | some sz => .p (.ia sz (S x) (S i))
    | none => g
   | some (.array n e) => match Al C.P e with
    | some sz => .p (.iap sz n (S x) (S i))
    | none => g
   | _ => g
  | .index t x i => match C.P.underlying t with
   | some .string => .p (.ixs (S x) (S i))
   | _ => g
  | .pick c a b => .p (.pick (S c) (S a) (S b))
  | .box e x => .x (.box e (S x))
  | .alloc e => match Fm C.P e with
   | some z => .x (.alloc z e)
   | none => g
  | .extract x i => .p (.ext i (S x))
  | .convert s d x => match C.P.underlying s, C.P.underlying d with
   | some (.int _), some (.int k) => .p (.cvt k (S x))
   | _, _ => g
  | .slice t x (some lo) (some hi) none => match C.P.underlying t with
   | some .string => .p (.subs (S x) (S lo) (S hi))
   | _ => g
  | .call c => match c.callee with
   | .value (.func f) => if Ff C f then .x (.call f (c.args.toList.map S)) else g
   | .value f => .x (.callv (S f) (c.args.toList.map S))
   | .builtin .len => match c.args.toList, c.argTypes[0]? with
    | [x], some t => match C.P.underlying t with
     | some (.slice _) => .p (.len (S x))
     | some .string => .p (.lent (S x))
     | _ => g
    | _, _ => g
   | _ => g
  | _ => g
def On (C : Cfg) : Operand → Option A
 | .const v => Ee v
 | .global g => C.glob g
 | .func f => some (.fn (.func f) [] [])
 | .tmp _ => none
def mkL (c : CO) (g : Option FX) (w : Option Src) (r : FL) : FL := match c, w with
 | .p e, none => .p e g r
 | .p e, some s => .pw e s g r
 | .x o, none => .x o r
 | .x o, some s => .xw o s r
def grdC (g : Src) (w : Bool) : CO → CO
 | .p e => .p (.grd g w e)
 | .x o => .x (.grd g w o)
def Vw : FL := .p (.ext 0 (.c .junk)) none .nil
def alD (o : Oper) (al : List (Tmp × AL)) (x : AL) : List (Tmp × AL) := match o.dst with
 | some d => (d, x) :: al
 | none => al
def P9 (nt : Nat) (o : Oper) : Bool := match o.dst with
 | some d => Nat.blt d nt
 | none => true
def Lw (C : Cfg) (al : List (Tmp × AL)) (o : Oper) (w : Option Src) : Option AL := match o.op, o.dst, w with
 | .move x, some _, none => match x with
  | .tmp t => al.lookup t
  | x => match On C x with
   | some a => some (.con a)
   | none => none
 | _, _, _ => none
def cL (C : Cfg) (live nt : Nat) (ops : Array Oper) : List Oper → List (Tmp × AL) → Nat → FL
 | [], _, _ => .nil
 | o :: r, al, n => if P9 nt o then
  let S := Gm C al n
  let xs := (Kf o).map fun t => (t, S (.tmp t))
  let w : Option Src := match o.dst with
   | some d => if live.testBit d then some (slt d) else none
   | none => none
  match o.guard with
  | some (j, want) => match (ops[j]?).bind (·.dst) with
   | some t => mkL (grdC (S (.tmp t)) want (cOp C S o xs)) (some (.grd (S (.tmp t)) want (.gen o xs))) w (cL C live nt ops r (alD o al (.loc n)) (n + 1))
   | none => Vw
  | none => match Lw C al o w with
   | some a => cL C live nt ops r (alD o al a) n
   | none => mkL (cOp C S o xs) (some (.gen o xs)) w (cL C live nt ops r (alD o al (.loc n)) (n + 1))
  else Vw
def S7 (o : Oper) : Bool := match o.op with
 | .move _ | .assign _ | .pick .. | .build .. | .buildSlice .. | .nilCheck _ | .unOp .. | .binOp .. | .makeInterface .. | .makeFunc .. | .fieldAddr .. | .field .. | .indexAddr .. | .index .. | .typeAssert .. | .extract .. => true
 | _ => false
def F9 (C : Cfg) (o : Oper) : Bool := match o.op with
 | .slice t _ _ _ _ => match C.P.underlying t with
  | some .string => true
  | _ => false
 | _ => true
def Ue (C : Cfg) (ops : Array Oper) (bef : Array Nat) : Bool := (List.range ops.size).all fun j => match ops[j]? with
 | none => false
 | some o => F9 C o && (S7 o || !isQuiet C o || (List.range ops.size).all fun i => match ops[i]? with
  | none => false
  | some p => isQuiet C p || (if i < j then bfr bef i j else bfr bef j i))
def Qa (C : Cfg) (ops : Array Oper) (d : Bool) : Bool := (ops.all fun o => match o.op with | .defer _ => false | _ => true) && (!d || (C9 C ops (Region.before ops) && Ue C ops (Region.before ops)))
def tb (m i : Nat) : Bool := Nat.beq (Nat.land (Nat.shiftRight m i) 1) 1
def comp (C : Cfg) (n : Nat) (live fast : Nat) : Code → FC
 | .skip => .skip
 | .region i ops d => cond (tb fast i) (cond d (.opsO (cL C live n ops ops.toList [] 0)) (.ops (cL C live n ops ops.toList [] 0))) (.slow d n ops ((List.range 255).filter live.testBit))
 | .seq a b => .seq (comp C n live fast a) (comp C n live fast b)
 | .cond x a b => .cond (Gm C [] 0 x) (comp C n live fast a) (comp C n live fast b)
 | .block id a => .block id (comp C n live fast a)
 | .loop a => .loop (comp C n live fast a)
 | .exit id => .exit id
 | .ret => .ret
 | _ => .bad
def regsOk (C : Cfg) (fast : Nat) : Code → Bool
 | .region i ops d => cond (tb fast i) (Qa C ops d) true
 | .seq a b => regsOk C fast a && regsOk C fast b
 | .cond _ a b => regsOk C fast a && regsOk C fast b
 | .block _ a => regsOk C fast a
 | .loop a => regsOk C fast a
 | _ => true
abbrev Orc := FuncId → Option (Nat × Nat)
def orcL (l : List (Nat × Nat × Nat)) : Orc := fun f => List.rec (motive := fun _ => Option (Nat × Nat)) none (fun e _ ih => cond (Nat.beq e.1 f) (some e.2) ih) l
def orcChk (C : Cfg) (l : List (Nat × Nat × Nat)) : Bool := l.all fun e => match C.P.funcs[e.1]? with
 | some fn => match fn.body with
  | some c => regsOk C e.2.2 c
  | none => true
 | none => true
def setArgs (n : Nat) (l : List A) (φ : FF) : FF := match l with
 | [] => φ
 | a :: r => setArgs (n + 1) r (setF (slt n) a φ)
def Oo (C : Cfg) (φ : FF) (σ : St) : List ResultVar → Option (List A)
 | [] => some []
 | .tmp t :: r => match R3 φ t, Oo C φ σ r with
  | some a, some l => some (a :: l)
  | _, _ => none
 | .cell a t :: r => match R3 φ a with
  | some p => match Ci C.P t p σ, Oo C φ σ r with
   | some x, some l => some (x :: l)
   | _, _ => none
  | none => none
structure FFun where
 code : FC
 res : List ResultVar
 np : Nat
def lowBits (n : Nat) : Nat := Nat.shiftLeft 1 n - 1
def Vx (C : Cfg) (Q : Orc) (f : FuncId) : Option FFun := match Q f, C.P.funcs[f]? with
 | some (live, fast), some fn => match fn.body with
  | some c => if 255 < fn.ntmps ∨ fn.ntmps < fn.params.size + fn.nfree then none else some ⟨comp C fn.ntmps (live ||| lowBits (fn.params.size + fn.nfree)) fast c, fn.results.toList, fn.params.size + fn.nfree⟩
  | none => none
 | _, _ => none
def R4 (C : Cfg) (φ : FF) (σ : St) (rs : List ResultVar) : Option (Out × St) := match Oo C φ σ rs with
 | some l => some (.ret (An l), σ)
 | none => none
def fcall1 (C : Cfg) (Q : Orc) (ih : CallF) (k : Nat) (f : FuncId) (args : List A) (σ : St) : Option (Out × St) :=
 match C.prim f with
  | some g => match g args σ with
   | some (x, σ') => some (.ret x, σ')
   | none => none
  | none => match Vx C Q f with
    | some ⟨c, rs, np⟩ => cond (Nat.ble args.length np) (match H6 C ih (k + 1) c (setArgs 0 args ff0) σ with
      | some (.normal, φ, σ') | some (.ret, φ, σ') => match Bx C ih (k + 1) (H5 φ) σ' none with
       | some (σ'', none) => R4 C φ σ'' rs
       | _ => none
      | some (.pan x, φ, σ') => match Bx C ih (k + 1) (H5 φ) σ' (some x) with
       | some (σ'', none) => R4 C φ σ'' rs
       | some (σ'', some y) => some (.pan y, σ'')
       | none => none
      | _ => none) none
    | none => none
def fcall (C : Cfg) (Q : Orc) : Nat → CallF := Nat.rec (motive := fun _ => CallF) (fun _ _ _ => none) fun k ih => fcall1 C Q ih k
end
end Go.DM.FM
namespace Go.DM.FM
open Go
theorem Uf (j : D16) (x : A) (t : N16) : P5 j (Vl j t x) = x := by cases t; cases j <;> rfl
theorem Xk {i j : D16} (h : i ≠ j) (x : A) (t : N16) : P5 i (Vl j t x) = P5 i t := by cases t; cases i <;> cases j <;> first | rfl | exact absurd rfl h
theorem M4 (j : D16) (x : N16) (t : FF) : Lr j (Vm j t x) = x := by cases t; cases j <;> rfl
theorem Xl {i j : D16} (h : i ≠ j) (x : N16) (t : FF) : Lr i (Vm j t x) = Lr i t := by cases t; cases i <;> cases j <;> first | rfl | exact absurd rfl h
theorem S8 : ∀ a, a < 16 → ∀ b, b < 16 → dig a = dig b → a = b := by decide
noncomputable def Ch (φ : FF) (t : Nat) : A := P5 (dig (Nat.shiftRight t 4)) (Lr (dig (Nat.land t 15)) φ)
theorem El (φ : FF) (t : Nat) (x : A) : Ch (setF (slt t) x φ) t = x := by
 show P5 _ (Lr _ (Vm _ φ (Vl _ (Lr _ φ) x))) = x
 rw [M4, Uf]
theorem Em (φ : FF) {t u : Nat} (ht : t < 256) (hu : u < 256) (h : u ≠ t) (x : A) : Ch (setF (slt t) x φ) u = Ch φ u := by
 show P5 _ (Lr _ (Vm _ φ (Vl _ (Lr _ φ) x))) = _
 unfold Ch
 have l15 : ∀ a : Nat, Nat.land a 15 = a % 16 := fun a => Nat.and_two_pow_sub_one_eq_mod a 4
 have s4 : ∀ a : Nat, Nat.shiftRight a 4 = a / 16 := fun a => Nat.shiftRight_eq_div_pow a 4
 by_cases h1 : dig (Nat.land u 15) = dig (Nat.land t 15)
 ·have e1 := S8 _ (by rw [l15]; omega) _ (by rw [l15]; omega) h1
  rw [h1, M4]
  by_cases h2 : dig (Nat.shiftRight u 4) = dig (Nat.shiftRight t 4)
  ·have e2 := S8 _ (by rw [s4]; omega) _ (by rw [s4]; omega) h2
   rw [l15, l15] at e1
   rw [s4, s4] at e2
   omega
  ·rw [Xk h2]
 ·rw [Xl h1]
theorem Lx (t : Tr Blk) : ∀ n, Ke t n = t.get n := by
 induction t with
 | nil => intro n; rfl
 | node l v r ihl ihr =>
  intro n
  cases n with
  | zero => rfl
  | succ m =>
   rw [Tr.get_eq, if_neg (by omega)]
   show cond (Nat.beq (Nat.land m 1) 0) (Ke l (Nat.shiftRight m 1)) (Ke r (Nat.shiftRight m 1)) = _
   have l1 : Nat.land m 1 = m % 2 := Nat.and_two_pow_sub_one_eq_mod m 1
   have s1 : Nat.shiftRight m 1 = m / 2 := Nat.shiftRight_eq_div_pow m 1
   rw [l1, s1, ihl, ihr]
   by_cases h : m % 2 = 0
   ·rw [if_pos (by omega), show Nat.beq (m % 2) 0 = true by rw [h]; rfl, show (m + 1) / 2 = m / 2 by omega]; rfl
   ·have hb : Nat.beq (m % 2) 0 = false := by
     cases hc : Nat.beq (m % 2) 0 with
     | false => rfl
     | true => exact absurd (Nat.eq_of_beq_eq_true hc) h
    rw [if_neg (by omega), hb, show (m + 1) / 2 - 1 = m / 2 by omega]; rfl
theorem G0 (x : Option Blk) : ∀ (f : Nat) (t : Tr Blk) (n : Nat), Ht x f t n = Tr.setF f t n x
 | 0, _, _ => rfl
 | f + 1, t, n => by
  have l1 : ∀ m : Nat, Nat.land m 1 = m % 2 := fun m => Nat.and_two_pow_sub_one_eq_mod m 1
  have s1 : ∀ m : Nat, Nat.shiftRight m 1 = m / 2 := fun m => Nat.shiftRight_eq_div_pow m 1
  rw [Tr.setF]
  cases n with
  | zero => cases t <;> rfl
  | succ m =>
   rw [if_neg (by omega)]
   have key : ∀ l v r, cond (Nat.beq (Nat.land m 1) 0) (Tr.node (Ht x f l (Nat.shiftRight m 1)) v r) (.node l v (Ht x f r (Nat.shiftRight m 1))) = if (m + 1) % 2 = 1 then .node (Tr.setF f l ((m + 1) / 2) x) v r else .node l v (Tr.setF f r ((m + 1) / 2 - 1) x) := by
    intro l v r
    rw [l1, s1, G0 x f, G0 x f]
    by_cases h : m % 2 = 0
    ·rw [if_pos (by omega), show Nat.beq (m % 2) 0 = true by rw [h]; rfl, show (m + 1) / 2 = m / 2 by omega]; rfl
    ·have hb : Nat.beq (m % 2) 0 = false := by
      cases hc : Nat.beq (m % 2) 0 with
      | false => rfl
      | true => exact absurd (Nat.eq_of_beq_eq_true hc) h
     rw [if_neg (by omega), hb, show (m + 1) / 2 - 1 = m / 2 by omega]; rfl
   cases t with
   | nil => exact key .nil none .nil
   | node l v r => exact key l v r
theorem S9 (σ : St) (b : Blk) : (⟨Ht (some b) (Nat.succ σ.next) σ.blks σ.next, Nat.succ σ.next, σ.toks, σ.nextT⟩ : St) = σ.push b := by
 rw [G0]; rfl
theorem Ac3 (σ : St) (b : Nat) (x : Blk) : (⟨Ht (some x) (Nat.succ b) σ.blks b, σ.next, σ.toks, σ.nextT⟩ : St) = σ.put b x := by
 rw [G0]; rfl
theorem Ta : ∀ (l : List A) (n : Nat), Jv l n = (l[n]?).getD .junk
 | [], n => by cases n <;> rfl
 | _ :: _, 0 => rfl
 | _ :: r, n + 1 => by rw [List.getElem?_cons_succ, ← Ta r n]; rfl
theorem Qb : ∀ (l : List A) (n : Nat), P8 l n = decide (n < l.length)
 | [], n => by cases n <;> rfl
 | _ :: _, 0 => rfl
 | _ :: r, n + 1 => by
  have := Qb r n
  rw [show P8 (_ :: r) (n + 1) = P8 r n from rfl, this]
  simp
theorem Ly : ∀ (l : List A) (n : Nat) (x : A), n < l.length → I0 l n x = splice l n [x]
 | [], n, _, h => absurd h (Nat.not_lt_zero n)
 | _ :: r, 0, x, _ => rfl
 | a :: r, n + 1, x, h => by
  have := Ly r n x (Nat.lt_of_succ_lt_succ h)
  rw [show I0 (a :: r) (n + 1) x = a :: I0 r n x from rfl, this]
  simp [splice]
end Go.DM.FM
namespace Go.DM.FM
open Go
def wr (s : Bool) (h m n : Int) : Int := if (s && decide (n % m ≥ h)) = true then n % m - m else n % m
theorem I2 (k : IntKind) (c : Nat) (h : c ≤ E1 k) : k.wrap (Int.ofNat c) = Int.ofNat c := by
 have e : Int.ofNat c = (c : Int) := rfl
 rw [e]
 cases k with
 | i8 =>
  have h : c ≤ 127 := h
  rw [show IntKind.i8.wrap (c : Int) = wr true 128 256 (c : Int) from rfl]
  unfold wr
  simp only [Bool.true_and, decide_eq_true_eq]
  split <;> omega
 | i16 =>
  have h : c ≤ 32767 := h
  rw [show IntKind.i16.wrap (c : Int) = wr true 32768 65536 (c : Int) from rfl]
  unfold wr
  simp only [Bool.true_and, decide_eq_true_eq]
  split <;> omega
 | i32 =>
  have h : c ≤ 2147483647 := h
  rw [show IntKind.i32.wrap (c : Int) = wr true 2147483648 4294967296 (c : Int) from rfl]
  unfold wr
  simp only [Bool.true_and, decide_eq_true_eq]
  split <;> omega
 | i64 =>
  have h : c ≤ 9223372036854775807 := h
  rw [show IntKind.i64.wrap (c : Int) = wr true 9223372036854775808 18446744073709551616 (c : Int) from rfl]
  unfold wr
  simp only [Bool.true_and, decide_eq_true_eq]
  split <;> omega
 | u8 =>
  have h : c ≤ 255 := h
  rw [show IntKind.u8.wrap (c : Int) = wr false 128 256 (c : Int) from rfl]
  unfold wr
  simp only [Bool.false_and, Bool.false_eq_true, if_false]
  omega
 | u16 =>
  have h : c ≤ 65535 := h
  rw [show IntKind.u16.wrap (c : Int) = wr false 32768 65536 (c : Int) from rfl]
  unfold wr
  simp only [Bool.false_and, Bool.false_eq_true, if_false]
  omega
 | u32 =>
  have h : c ≤ 4294967295 := h
  rw [show IntKind.u32.wrap (c : Int) = wr false 2147483648 4294967296 (c : Int) from rfl]
  unfold wr
  simp only [Bool.false_and, Bool.false_eq_true, if_false]
  omega
 | u64 =>
  have h : c ≤ 18446744073709551615 := h
  rw [show IntKind.u64.wrap (c : Int) = wr false 9223372036854775808 18446744073709551616 (c : Int) from rfl]
  unfold wr
  simp only [Bool.false_and, Bool.false_eq_true, if_false]
  omega
theorem Vy (k : IntKind) (hs : sgn k = true) (c : Nat) (h : c ≤ E1 k) : k.wrap (Int.negSucc c) = Int.negSucc c := by
 have e : Int.negSucc c = -((c : Int) + 1) := Int.negSucc_eq c
 rw [e]
 cases k with
 | i8 =>
  have h : c ≤ 127 := h
  rw [show IntKind.i8.wrap (-((c : Int) + 1)) = wr true 128 256 (-((c : Int) + 1)) from rfl]
  unfold wr
  simp only [Bool.true_and, decide_eq_true_eq]
  split <;> omega
 | i16 =>
  have h : c ≤ 32767 := h
  rw [show IntKind.i16.wrap (-((c : Int) + 1)) = wr true 32768 65536 (-((c : Int) + 1)) from rfl]
  unfold wr
  simp only [Bool.true_and, decide_eq_true_eq]
  split <;> omega
 | i32 =>
  have h : c ≤ 2147483647 := h
  rw [show IntKind.i32.wrap (-((c : Int) + 1)) = wr true 2147483648 4294967296 (-((c : Int) + 1)) from rfl]
  unfold wr
  simp only [Bool.true_and, decide_eq_true_eq]
  split <;> omega
 | i64 =>
  have h : c ≤ 9223372036854775807 := h
  rw [show IntKind.i64.wrap (-((c : Int) + 1)) = wr true 9223372036854775808 18446744073709551616 (-((c : Int) + 1)) from rfl]
  unfold wr
  simp only [Bool.true_and, decide_eq_true_eq]
  split <;> omega
 | u8 => cases hs
 | u16 => cases hs
 | u32 => cases hs
 | u64 => cases hs
theorem Fg (k : IntKind) (c : Nat) : wrapP k c = .v (.int k (k.wrap (Int.ofNat c))) := by
 unfold wrapP
 cases h : Nat.ble c (E1 k) with
 | true => rw [I2 k c (Nat.le_of_ble_eq_true h)]; rfl
 | false => rfl
theorem Qc (k : IntKind) (c : Nat) : P7 k c = .v (.int k (k.wrap (Int.negSucc c))) := by
 unfold P7
 cases hs : sgn k with
 | false => rfl
 | true =>
  cases h : Nat.ble c (E1 k) with
  | true => rw [Vy k hs c (Nat.le_of_ble_eq_true h)]; rfl
  | false => rfl
theorem G1 (k : IntKind) (z : Int) : Hs k z = .v (.int k (k.wrap z)) := by
 cases z with
 | ofNat n => exact Fg k n
 | negSucc n => exact Qc k n
theorem Xm {P : Program} {t : TypeId} {k : IntKind} {n : Int} {y : A} : eqA P t (.v (.int k n)) y = none := by
 unfold eqA
 split <;> first | rfl | (rename_i h _; cases h) | (simp_all)
theorem Oq (x y : Int) : leI x y = decide (x ≤ y) := by
 cases x with
 | ofNat m =>
  cases y with
  | ofNat n =>
   show Nat.ble m n = _
   cases h : Nat.ble m n with
   | true => have := Nat.le_of_ble_eq_true h; exact (decide_eq_true (Int.ofNat_le.2 this)).symm
   | false => exact (decide_eq_false (fun c => by rw [Nat.ble_eq_true_of_le (Int.ofNat_le.1 c)] at h; cases h)).symm
  | negSucc n => exact (decide_eq_false (by have := Int.negSucc_lt_zero n; have : (0 : Int) ≤ Int.ofNat m := Int.natCast_nonneg m; omega)).symm
 | negSucc m =>
  cases y with
  | ofNat n => exact (decide_eq_true (by have := Int.negSucc_lt_zero m; have : (0 : Int) ≤ Int.ofNat n := Int.natCast_nonneg n; omega)).symm
  | negSucc n =>
   show Nat.ble n m = _
   have e1 := Int.negSucc_eq m
   have e2 := Int.negSucc_eq n
   cases h : Nat.ble n m with
   | true => have := Nat.le_of_ble_eq_true h; exact (decide_eq_true (by omega)).symm
   | false => exact (decide_eq_false (fun c => by rw [Nat.ble_eq_true_of_le (by omega)] at h; cases h)).symm
theorem Vz (x y : Int) : eqI x y = decide (x = y) := by
 cases x with
 | ofNat m =>
  cases y with
  | ofNat n =>
   show Nat.beq m n = _
   cases h : Nat.beq m n with
   | true => exact (decide_eq_true (by rw [Nat.eq_of_beq_eq_true h])).symm
   | false => exact (decide_eq_false (fun c => by cases c; rw [Nat.beq_refl] at h; cases h)).symm
  | negSucc n => exact (decide_eq_false (by intro c; cases c)).symm
 | negSucc m =>
  cases y with
  | ofNat n => exact (decide_eq_false (by intro c; cases c)).symm
  | negSucc n =>
   show Nat.beq m n = _
   cases h : Nat.beq m n with
   | true => exact (decide_eq_true (by rw [Nat.eq_of_beq_eq_true h])).symm
   | false => exact (decide_eq_false (fun c => by cases c; rw [Nat.beq_refl] at h; cases h)).symm
theorem Co (x y : Int) (f : Nat → Nat → A) (e : A) : (∃ m n, x = Int.ofNat m ∧ y = Int.ofNat n ∧ Gy x y f e = f m n) ∨ Gy x y f e = e := by
 cases x with
 | ofNat m =>
  cases y with
  | ofNat n => exact .inl ⟨m, n, rfl, rfl, rfl⟩
  | negSucc n => exact .inr rfl
 | negSucc m => exact .inr rfl
theorem Xn (k : IntKind) (x y : Int) : addG k x y = .v (.int k (k.wrap (x + y))) := by
 unfold addG
 rcases Co x y (fun m n => wrapP k (Nat.add m n)) (Hs k (Int.add x y)) with ⟨m, n, rfl, rfl, h⟩ | h
 ·rw [h, Fg]; rfl
 ·rw [h, G1]; rfl
theorem Xo (k : IntKind) (x y : Int) : subG k x y = .v (.int k (k.wrap (x - y))) := by
 cases x with
 | ofNat m =>
  cases y with
  | ofNat n =>
   show cond (Nat.ble n m) (wrapP k (Nat.sub m n)) (P7 k (Nat.pred (Nat.sub n m))) = _
   have e : ∀ a : Nat, Int.ofNat a = (a : Int) := fun _ => rfl
   cases h : Nat.ble n m with
   | true =>
    have := Nat.le_of_ble_eq_true h
    rw [cond_true, Fg]
    congr 3
    rw [e, e, e]
    show ((m - n : Nat) : Int) = _
    omega
   | false =>
    have : ¬ n ≤ m := fun c => by rw [Nat.ble_eq_true_of_le c] at h; cases h
    rw [cond_false, Qc]
    congr 3
    rw [e, e, Int.negSucc_eq]
    show -((((n - m) - 1 : Nat) : Int) + 1) = _
    omega
  | negSucc n =>
   show Hs k (Int.sub (Int.ofNat m) (Int.negSucc n)) = _
   rw [G1]; rfl
 | negSucc m =>
  show Hs k (Int.sub (Int.negSucc m) y) = _
  rw [G1]; rfl
theorem Xp (k : IntKind) (x y : Int) : Acq k x y = .v (.int k (k.wrap (x * y))) := by
 unfold Acq
 rcases Co x y (fun m n => wrapP k (Nat.mul m n)) (Hs k (Int.mul x y)) with ⟨m, n, rfl, rfl, h⟩ | h
 ·rw [h, Fg]; rfl
 ·rw [h, G1]; rfl
section
variable {C : Cfg} {ρ : Operand → Option A} {o : Oper} {σ : St}
theorem R5 {b : BinOp} {t u : TypeId} {x y : Operand} {k k' : IntKind} {n m : Int} {r : Value} (hop : o.op = .binOp b t x y u) (hx : ρ x = some (.v (.int k n))) (hy : ρ y = some (.v (.int k' m)))
  (hr : det C.P (binOp b t (.int k n) (.int k' m)) = some r) (hs : Ee r = some (.v r)) : op C ρ o σ = some (.val (.v r) σ) := by
 have hd : Ao C ρ o σ = some (.val (.v r) σ) := by
  refine Cb (u := r) ?_ ?_ hs
  ·simp [hop, Op.operands, Az, hx, hy, Bo]
  ·have hg : det C.P (eqGuard b t x y (.int k n) (.int k' m)) = some () := by cases b <;> rfl
   simp only [execOp, hop, Bg hx, Bg hy, Bz, hg, hr, Option.bind_some, Cu]
 unfold op
 rw [hop]
 cases b <;> simp only [hx, hy, Xm] <;> exact hd
end
end Go.DM.FM
namespace Go.DM.FM
open Go
theorem Qd (k : IntKind) : ∃ j, E1 k + 1 = 2 ^ j ∧ j ≤ k.bits := by
 cases k
 ·exact ⟨7, rfl, by decide⟩
 ·exact ⟨15, rfl, by decide⟩
 ·exact ⟨31, rfl, by decide⟩
 ·exact ⟨63, rfl, by decide⟩
 ·exact ⟨8, rfl, by decide⟩
 ·exact ⟨16, rfl, by decide⟩
 ·exact ⟨32, rfl, by decide⟩
 ·exact ⟨64, rfl, by decide⟩
theorem Ec (k : IntKind) (m : Nat) (h : m ≤ E1 k) : (BitVec.ofInt k.bits (Int.ofNat m)).toNat = m := by
 obtain ⟨j, hj, hb⟩ := Qd k
 have h2 : m < 2 ^ k.bits := Nat.lt_of_lt_of_le (by omega) (Nat.pow_le_pow_right (by decide) hb)
 have e : Int.ofNat m = (m : Int) := rfl
 rw [e, BitVec.ofInt_natCast, BitVec.toNat_ofNat, Nat.mod_eq_of_lt h2]
theorem R6 {f : Nat → Nat → Nat} (hf : ∀ j a b, a < 2 ^ j → b < 2 ^ j → f a b < 2 ^ j) (k : IntKind) {m n : Nat} (hm : m ≤ E1 k) (hn : n ≤ E1 k) : f m n ≤ E1 k := by
 obtain ⟨j, hj, _⟩ := Qd k
 have := hf j m n (by omega) (by omega)
 omega
theorem Lz {f : Nat → Nat → Nat} {k : IntKind} {x y : Int} {a : A} (h : Vp f k x y = a) (hj : a ≠ .junk) : ∃ m n, x = Int.ofNat m ∧ y = Int.ofNat n ∧ m ≤ E1 k ∧ n ≤ E1 k ∧ a = .v (.int k (Int.ofNat (f m n))) := by
 unfold Vp at h
 rcases Co x y (fun m n => cond (Nat.ble m (E1 k)) (cond (Nat.ble n (E1 k)) (.v (.int k (.ofNat (f m n)))) .junk) .junk) .junk with ⟨m, n, rfl, rfl, e⟩ | e
 ·rw [e] at h
  cases h1 : Nat.ble m (E1 k) with
  | false => rw [h1] at h; exact absurd h.symm hj
  | true =>
   cases h2 : Nat.ble n (E1 k) with
   | false => rw [h1, h2] at h; exact absurd h.symm hj
   | true => rw [h1, h2] at h; exact ⟨m, n, rfl, rfl, Nat.le_of_ble_eq_true h1, Nat.le_of_ble_eq_true h2, h.symm⟩
 ·rw [e] at h; exact absurd h.symm hj
theorem L2 {P : Program} {k : IntKind} {m n : Nat} (hm : m ≤ E1 k) (hn : n ≤ E1 k) :
  det P (Op.intBits .and k (Int.ofNat m) (Int.ofNat n)) = some (.int k (Int.ofNat (Nat.land m n))) ∧ det P (Op.intBits .or k (Int.ofNat m) (Int.ofNat n)) = some (.int k (Int.ofNat (Nat.lor m n))) ∧
  det P (Op.intBits .xor k (Int.ofNat m) (Int.ofNat n)) = some (.int k (Int.ofNat (Nat.xor m n))) := by
 refine ⟨?_, ?_, ?_⟩
 ·show some (Value.int k (k.wrap (((BitVec.ofInt k.bits (Int.ofNat m)) &&& (BitVec.ofInt k.bits (Int.ofNat n))).toNat : Int))) = _
  rw [BitVec.toNat_and, Ec k m hm, Ec k n hn]
  exact congrArg (fun z => some (Value.int k z)) (I2 k (m &&& n) (R6 (f := (· &&& ·)) (fun j a b ha _ => Nat.lt_of_le_of_lt Nat.and_le_left ha) k hm hn))
 ·show some (Value.int k (k.wrap (((BitVec.ofInt k.bits (Int.ofNat m)) ||| (BitVec.ofInt k.bits (Int.ofNat n))).toNat : Int))) = _
  rw [BitVec.toNat_or, Ec k m hm, Ec k n hn]
  exact congrArg (fun z => some (Value.int k z)) (I2 k (m ||| n) (R6 (f := (· ||| ·)) (fun j a b => Nat.or_lt_two_pow) k hm hn))
 ·show some (Value.int k (k.wrap (((BitVec.ofInt k.bits (Int.ofNat m)) ^^^ (BitVec.ofInt k.bits (Int.ofNat n))).toNat : Int))) = _
  rw [BitVec.toNat_xor, Ec k m hm, Ec k n hn]
  exact congrArg (fun z => some (Value.int k z)) (I2 k (m ^^^ n) (R6 (f := (· ^^^ ·)) (fun j a b => Nat.xor_lt_two_pow) k hm hn))
theorem Xq {b : BinOp} {b' : BO} (hb : Ac2 b = some b') {P : Program} {t : TypeId} {k : IntKind} {n m : Int} {a : A} (ha : Xg b' k n m = a) (hj : a ≠ .junk) :
  ∃ r, a = .v r ∧ det P (binOp b t (.int k n) (.int k m)) = some r ∧ Ee r = some (.v r) := by
 have hk : ∀ {α : Type} (x y : α), (if k ≠ k then x else y) = y := fun x y => if_neg (fun c => c rfl)
 have cmp : ∀ {z : Bool} {p : Prop} [Decidable p], z = decide p → cond z tt ff = .v (.bool (decide p)) := fun {z p _} h => by rw [h]; cases decide p <;> rfl
 have cmpN : ∀ {z : Bool} {p q : Prop} [Decidable p] [Decidable q], z = decide p → (q ↔ ¬ p) → cond z ff tt = .v (.bool (decide q)) := fun {z p q _ _} h hq => by
  rw [h]
  by_cases hp : p
  ·rw [decide_eq_true hp, decide_eq_false (fun c => hq.1 c hp)]; rfl
  ·rw [decide_eq_false hp, decide_eq_true (hq.2 hp)]; rfl
 cases b <;> cases hb
 case add => exact ⟨_, ha.symm.trans (Xn k n m), by simp only [binOp, hk, Op.intArith]; rfl, rfl⟩
 case sub => exact ⟨_, ha.symm.trans (Xo k n m), by simp only [binOp, hk, Op.intArith]; rfl, rfl⟩
 case mul => exact ⟨_, ha.symm.trans (Xp k n m), by simp only [binOp, hk, Op.intArith]; rfl, rfl⟩
 case quo =>
  have ha : Acr k n m = a := ha
  unfold Acr at ha
  rcases Co n m (fun m n => cond (Nat.ble 1 n) (wrapP k (Nat.div m n)) .junk) .junk with ⟨x, y, rfl, rfl, e⟩ | e
  ·rw [e] at ha
   cases h1 : Nat.ble 1 y with
   | false => rw [h1] at ha; exact absurd ha.symm hj
   | true =>
    rw [h1, cond_true, Fg] at ha
    have hy := Nat.le_of_ble_eq_true h1
    have hy0 : ¬ (Int.ofNat y = 0) := fun c => by have : (y : Int) = 0 := c; omega
    exact ⟨_, ha.symm, by simp only [binOp, hk, Op.intDiv, if_neg hy0]; rfl, rfl⟩
  ·rw [e] at ha; exact absurd ha.symm hj
 case rem =>
  have ha : Acs k n m = a := ha
  unfold Acs at ha
  rcases Co n m (fun m n => cond (Nat.ble 1 n) (.v (.int k (.ofNat (Nat.mod m n)))) .junk) .junk with ⟨x, y, rfl, rfl, e⟩ | e
  ·rw [e] at ha
   cases h1 : Nat.ble 1 y with
   | false => rw [h1] at ha; exact absurd ha.symm hj
   | true =>
    rw [h1, cond_true] at ha
    have hy := Nat.le_of_ble_eq_true h1
    have hy0 : ¬ (Int.ofNat y = 0) := fun c => by have : (y : Int) = 0 := c; omega
    exact ⟨_, ha.symm, by simp only [binOp, hk, Op.intDiv, if_neg hy0]; rfl, rfl⟩
  ·rw [e] at ha; exact absurd ha.symm hj
 case and =>
  obtain ⟨x, y, rfl, rfl, h1, h2, h3⟩ := Lz (f := Nat.land) ha hj
  exact ⟨_, h3, by simp only [binOp, hk]; exact (L2 h1 h2).1, rfl⟩
 case or =>
  obtain ⟨x, y, rfl, rfl, h1, h2, h3⟩ := Lz (f := Nat.lor) ha hj
  exact ⟨_, h3, by simp only [binOp, hk]; exact (L2 h1 h2).2.1, rfl⟩
 case xor =>
  obtain ⟨x, y, rfl, rfl, h1, h2, h3⟩ := Lz (f := Nat.xor) ha hj
  exact ⟨_, h3, by simp only [binOp, hk]; exact (L2 h1 h2).2.2, rfl⟩
 case eql => exact ⟨_, ha.symm.trans (cmp (Vz n m)), by simp only [binOp, hk, Op.intCmp]; rfl, rfl⟩
 case neq => exact ⟨_, ha.symm.trans (cmpN (q := ¬ n = m) (Vz n m) Iff.rfl), by simp only [binOp, hk, Op.intCmp, Cu]; congr 2; by_cases h : n = m <;> simp [h], rfl⟩
 case lss => exact ⟨_, ha.symm.trans (cmpN (q := n < m) (Oq m n) (by omega)), by simp only [binOp, hk, Op.intCmp]; rfl, rfl⟩
 case leq => exact ⟨_, ha.symm.trans (cmp (Oq n m)), by simp only [binOp, hk, Op.intCmp]; rfl, rfl⟩
 case gtr => exact ⟨_, ha.symm.trans (cmpN (q := n > m) (Oq n m) (by omega)), by simp only [binOp, hk, Op.intCmp]; rfl, rfl⟩
 case geq => exact ⟨_, ha.symm.trans (cmp (p := n ≥ m) (Oq m n)), by simp only [binOp, hk, Op.intCmp]; rfl, rfl⟩
end Go.DM.FM
namespace Go.DM.FM
open Go
theorem E2 {x : A} {f : IntKind → Int → A} {a : A} (h : eI x f = a) (hj : a ≠ .junk) : ∃ k n, x = .v (.int k n) ∧ f k n = a := by
 cases x with
 | v u => cases u <;> first | exact ⟨_, _, rfl, h⟩ | exact absurd h.symm hj
 | _ => exact absurd h.symm hj
theorem V0 {x : A} {f : Bool → A} {a : A} (h : eB x f = a) (hj : a ≠ .junk) : ∃ b, x = .v (.bool b) ∧ f b = a := by
 cases x with
 | v u => cases u <;> first | exact ⟨_, rfl, h⟩ | exact absurd h.symm hj
 | _ => exact absurd h.symm hj
theorem Ot {x : A} {f : ByteArray → A} {a : A} (h : eS x f = a) (hj : a ≠ .junk) : ∃ b, x = .v (.string b) ∧ f b = a := by
 cases x with
 | v u => cases u <;> first | exact ⟨_, rfl, h⟩ | exact absurd h.symm hj
 | _ => exact absurd h.symm hj
theorem Ac4 {k k' : IntKind} (h : Nat.beq (kn k) (kn k') = true) : k = k' := by
 have := Nat.eq_of_beq_eq_true h
 revert this; cases k <;> cases k' <;> first | (intro; rfl) | (intro h; cases h)
theorem V1 {b : BO} {x y a : A} (h : Xh b x y = a) (hj : a ≠ .junk) : ∃ k n m, x = .v (.int k n) ∧ y = .v (.int k m) ∧ Xg b k n m = a := by
 unfold Xh at h
 obtain ⟨k, n, rfl, h1⟩ := E2 h hj
 obtain ⟨k', m, rfl, h2⟩ := E2 h1 hj
 cases hk : Nat.beq (kn k) (kn k') with
 | false => rw [hk] at h2; exact absurd h2.symm hj
 | true => rw [hk] at h2; obtain rfl := Ac4 hk; exact ⟨k, n, m, rfl, rfl, h2⟩
theorem Ug {σ : St} {b : Nat} {f : List A → A} {a : A} (h : Rx σ b f = a) (hj : a ≠ .junk) : ∃ cs e, σ.cells b = some (cs, e) ∧ f cs = a := by
 unfold Rx at h
 rw [Lx] at h
 unfold St.cells
 cases hb : σ.blks.get b with
 | none => rw [hb] at h; exact absurd h.symm hj
 | some x =>
  rw [hb] at h
  cases x with
  | cells cs e => exact ⟨cs, e, rfl, h⟩
  | siter s p => exact absurd h.symm hj
  | map es c => exact absurd h.symm hj
  | miter m s e c => exact absurd h.symm hj
theorem M5 {x : A} {σ : St} {f : List A → Nat → A} {a : A} (h : P6 x σ f = a) (hj : a ≠ .junk) : (∃ b o cs e, x = .ptr b o ∧ σ.cells b = some (cs, e) ∧ f cs o = a) ∨ ∃ cs o ap, x = .sp cs o ap ∧ f cs o = a := by
 cases x with
 | ptr b o => obtain ⟨cs, e, h1, h2⟩ := Ug h hj; exact .inl ⟨b, o, cs, e, rfl, h1, h2⟩
 | sp cs o ap => exact .inr ⟨cs, o, ap, rfl, h⟩
 | _ => exact absurd h.symm hj
theorem Hd {l : List A} {n : Nat} {a : A} (h : Jv l n = a) (hj : a ≠ .junk) : l[n]? = some a := by
 rw [Ta] at h
 cases hl : l[n]? with
 | none => rw [hl] at h; exact absurd h.symm hj
 | some x => rw [hl] at h; rw [← h]; rfl
section
variable {C : Cfg} {ρ : Operand → Option A} {o : Oper} {σ : St} {x a : A}
theorem p_bin {b : BinOp} {b' : BO} (hb : Ac2 b = some b') {t u : TypeId} {X Y : Operand} {y : A} (hop : o.op = .binOp b t X Y u) (hx : x ≠ .junk → ρ X = some x) (hy : y ≠ .junk → ρ Y = some y) (h : Xh b' x y = a) (hj : a ≠ .junk) : op C ρ o σ = some (.val a σ) := by
 obtain ⟨k, n, m, rfl, rfl, h'⟩ := V1 h hj
 obtain ⟨r, rfl, h1, h2⟩ := Xq hb (P := C.P) (t := t) h' hj
 exact R5 hop (hx (by simp)) (hy (by simp)) h1 h2
theorem Aez {t : TypeId} {X : Operand} (hop : o.op = .unOp .not t X) (hx : x ≠ .junk → ρ X = some x) (h : notA x = a) (hj : a ≠ .junk) : op C ρ o σ = some (.val a σ) := by
 obtain ⟨b, rfl, h'⟩ := V0 h hj
 have hx := hx (by simp)
 have ha : a = .v (.bool (!b)) := by rw [← h']; cases b <;> rfl
 have hd : Ao C ρ o σ = some (.val (.v (.bool (!b))) σ) := by
  refine Cb (u := .bool (!b)) ?_ ?_ rfl
  ·simp [hop, Op.operands, Az, hx, Bo]
  ·simp only [execOp, hop, Bg hx]; rfl
 unfold op
 rw [hop, ha]
 exact hd
theorem p_mv {X : Operand} (hop : o.op = .move X ∨ o.op = .assign X) (hx : x ≠ .junk → ρ X = some x) (hj : x ≠ .junk) : op C ρ o σ = some (.val x σ) := by
 rcases hop with hop | hop <;> simp only [op, hop, hx hj, Br]
theorem p_ld {t : TypeId} {i : TypeInfo} {X : Operand} (hop : o.op = .load t X) (h1 : Ef C.P t = some false) (h2 : C.P.info? t = some i) (hx : x ≠ .junk → ρ X = some x) (h : P6 x σ Jv = a) (hj : a ≠ .junk) : op C ρ o σ = some (.val a σ) := by
 rcases M5 h hj with ⟨b, off, cs, e, rfl, hc, h'⟩ | ⟨cs, off, ap, rfl, h'⟩
 ·simp only [op, hop, hx (by simp), Ci, hc, loadAt, h1, h2, Hd h' hj, Br]
 ·simp only [op, hop, hx (by simp), Ci, loadAt, h1, h2, Hd h' hj, Br]
theorem Ae0 {t : TypeId} {i : TypeInfo} {X : Operand} (hop : o.op = .load t X) (h1 : Ef C.P t = some true) (h2 : C.P.info? t = some i) (hx : x ≠ .junk → ρ X = some x)
  (h : P6 x σ (fun cs o => cond (Nat.ble (Nat.add o i.size) cs.length) (.agg ((cs.drop o).take i.size)) .junk) = a) (hj : a ≠ .junk) : op C ρ o σ = some (.val a σ) := by
 have key : ∀ (cs : List A) (off : Nat), cond (Nat.ble (Nat.add off i.size) cs.length) (A.agg ((cs.drop off).take i.size)) .junk = a → loadAt C.P t cs off = some a := by
  intro cs off h
  cases hb : Nat.ble (Nat.add off i.size) cs.length with
  | false => rw [hb] at h; exact absurd h.symm hj
  | true =>
   rw [hb] at h
   have : off + i.size ≤ cs.length := Nat.le_of_ble_eq_true hb
   simp only [loadAt, h1, h2]
   rw [if_pos this]; exact congrArg some h
 rcases M5 h hj with ⟨b, off, cs, e, rfl, hc, h'⟩ | ⟨cs, off, ap, rfl, h'⟩
 ·simp only [op, hop, hx (by simp), Ci, hc, key _ _ h', Br]
 ·simp only [op, hop, hx (by simp), Ci, key _ _ h', Br]
theorem Ae1 {s : TypeId} {fs : Array Field} {f n : Nat} {fd : Field} {X : Operand} (hop : o.op = .fieldAddr s X f) (h1 : C.P.underlying s = some (.struct fs)) (h2 : fs[f]? = some fd) (h3 : Al C.P fd.type = some n) (h4 : n ≠ 0)
  (hx : x ≠ .junk → ρ X = some x) (h : fldA fd.offset x = a) (hj : a ≠ .junk) : op C ρ o σ = some (.val a σ) := by
 cases x with
 | ptr b off => subst h; simp only [op, hop, hx (by simp), Eo, h1, h2, h3, if_neg h4, Br]; rfl
 | sp cs off ap => subst h; simp only [op, hop, hx (by simp), Eo, h1, h2, h3, if_neg h4, Br]; rfl
 | _ => exact absurd h.symm hj
end
end Go.DM.FM
namespace Go.DM.FM
open Go
theorem Qe : ∀ (l : List UInt8) (n : Nat), S3 l n = n + l.length
 | [], _ => rfl
 | _ :: r, n => by
  have := Qe r (n + 1)
  rw [show S3 (_ :: r) n = S3 r (n + 1) from rfl, this, List.length_cons]; omega
theorem G2 (s : ByteArray) : Dt s = s.size := by
 unfold Dt
 rw [Qe, Nat.zero_add]
 show s.data.toList.length = s.data.size
 simp
section
variable {C : Cfg} {ρ : Operand → Option A} {o : Oper} {σ : St} {x a : A}
theorem Ae2 {X : Operand} (hop : o.op = .nilCheck X) (hx : x ≠ .junk → ρ X = some x) (h : nilA x = a) (hj : a ≠ .junk) : op C ρ o σ = some (.val a σ) := by
 cases x with
 | v u => exact absurd h.symm hj
 | junk => exact absurd h.symm hj
 | fn f l c =>
  cases f with
  | func g => subst h; simp only [op, hop, hx (by simp)]; rfl
  | _ => exact absurd h.symm hj
 | _ => subst h; simp only [op, hop, hx (by simp)]; rfl
theorem Ae3 {c : Call} {X : Operand} {t e : TypeId} (hop : o.op = .call c) (hc : c.callee = .builtin .len) (hargs : c.args.toList = [X]) (h0 : c.argTypes[0]? = some t) (ht : C.P.underlying t = some (.slice e)) (hx : x ≠ .junk → ρ X = some x) (h : Aby x = a) (hj : a ≠ .junk) : op C ρ o σ = some (.val a σ) := by
 cases x with
 | sl sz cs ap => subst h; simp only [op, hop, hc, Bd, hargs, hx (by simp), h0, Ku, ht]; rfl
 | ms b off len cap => subst h; simp only [op, hop, hc, Bd, hargs, hx (by simp), h0, Ku, ht]; rfl
 | _ => exact absurd h.symm hj
theorem Ac5 {c : Call} {X : Operand} {t : TypeId} (hop : o.op = .call c) (hc : c.callee = .builtin .len) (hargs : c.args.toList = [X]) (h0 : c.argTypes[0]? = some t) (ht : C.P.underlying t = some .string) (hx : x ≠ .junk → ρ X = some x) (h : Abz x = a) (hj : a ≠ .junk) : op C ρ o σ = some (.val a σ) := by
 cases x with
 | v u =>
  cases u with
  | string s =>
   have : a = .v (.int .i64 ((s.size : Nat) : Int)) := by rw [← h, ← G2]; rfl
   rw [this]
   exact Acj hop hc hargs h0 (hx (by simp)) ht
  | _ => exact absurd h.symm hj
 | _ => exact absurd h.symm hj
theorem L3 {z : Int} {f : Nat → Nat → A} (h : Gy z 0 f .junk = a) (hj : a ≠ .junk) : ∃ n, z = Int.ofNat n ∧ f n 0 = a := by
 cases z with
 | ofNat n => exact ⟨n, rfl, h⟩
 | negSucc n => exact absurd h.symm hj
theorem p_ia {t e : TypeId} {sz : Nat} {X I : Operand} {i : A} (hop : o.op = .indexAddr t X I) (ht : C.P.underlying t = some (.slice e)) (hs : Al C.P e = some sz) (hx : x ≠ .junk → ρ X = some x) (hi : i ≠ .junk → ρ I = some i)
  (h : (eI i fun _ z => Gy z 0 (fun n _ => iaA sz n x) .junk) = a) (hj : a ≠ .junk) : op C ρ o σ = some (.val a σ) := by
 obtain ⟨k, z, rfl, h1⟩ := E2 h hj
 obtain ⟨n, rfl, h2⟩ := L3 h1 hj
 have hi := hi (by simp)
 cases x with
 | sl z cs ap =>
  have h2 : cond (Nat.beq z sz) (cond (Nat.ble 1 sz) (cond (Nat.ble (Nat.succ n) (Nat.div cs.length sz)) (.sp cs (Nat.mul n sz) .no) .junk) .junk) .junk = a := h2
  cases b1 : Nat.beq z sz with
  | false => rw [b1] at h2; exact absurd h2.symm hj
  | true =>
   cases b2 : Nat.ble 1 sz with
   | false => rw [b1, b2] at h2; exact absurd h2.symm hj
   | true =>
    cases b3 : Nat.ble (Nat.succ n) (Nat.div cs.length sz) with
    | false => rw [b1, b2, b3] at h2; exact absurd h2.symm hj
    | true =>
     rw [b1, b2, b3] at h2
     obtain rfl := Nat.eq_of_beq_eq_true b1
     have c2 := Nat.le_of_ble_eq_true b2
     have c3 : n + 1 ≤ cs.length / z := Nat.le_of_ble_eq_true b3
     have e0 : Int.ofNat n = (n : Int) := rfl
     simp only [op, hop, hx (by simp), hi, B1, ht, hs]
     rw [if_pos ⟨trivial, c2, by rw [e0]; omega, by rw [e0]; omega⟩]
     rw [← h2]; rfl
 | ms b off len cap =>
  have h2 : cond (Nat.ble (Nat.succ n) len) (.ptr b (Nat.add off (Nat.mul n sz))) .junk = a := h2
  cases b3 : Nat.ble (Nat.succ n) len with
  | false => rw [b3] at h2; exact absurd h2.symm hj
  | true =>
   rw [b3] at h2
   have c3 : n + 1 ≤ len := Nat.le_of_ble_eq_true b3
   have e0 : Int.ofNat n = (n : Int) := rfl
   simp only [op, hop, hx (by simp), hi, B1, ht, hs]
   rw [if_pos ⟨by rw [e0]; omega, by rw [e0]; omega⟩]
   rw [← h2]; rfl
 | _ => exact absurd h2.symm hj
theorem Ae4 {t e : TypeId} {sz len : Nat} {X I : Operand} {i : A} (hop : o.op = .indexAddr t X I) (ht : C.P.underlying t = some (.array len e)) (hs : Al C.P e = some sz) (hx : x ≠ .junk → ρ X = some x) (hi : i ≠ .junk → ρ I = some i)
  (h : (eI i fun _ z => Gy z 0 (fun n _ => cond (Nat.ble (Nat.succ n) len) (iapA sz n x) .junk) .junk) = a) (hj : a ≠ .junk) : op C ρ o σ = some (.val a σ) := by
 obtain ⟨k, z, rfl, h1⟩ := E2 h hj
 obtain ⟨n, rfl, h2⟩ := L3 h1 hj
 have hi := hi (by simp)
 have e0 : Int.ofNat n = (n : Int) := rfl
 cases b3 : Nat.ble (Nat.succ n) len with
 | false => rw [b3] at h2; exact absurd h2.symm hj
 | true =>
  rw [b3] at h2
  have c3 : n + 1 ≤ len := Nat.le_of_ble_eq_true b3
  cases x with
  | ptr b off =>
   simp only [op, hop, hx (by simp), hi, B1, ht, hs]
   rw [if_pos ⟨by rw [e0]; omega, by rw [e0]; omega⟩, ← h2]; rfl
  | sp cs off ap =>
   simp only [op, hop, hx (by simp), hi, B1, ht, hs]
   rw [if_pos ⟨by rw [e0]; omega, by rw [e0]; omega⟩, ← h2]; rfl
  | _ => exact absurd h2.symm hj
theorem Ac6 {X Y Z : Operand} {y z : A} (hop : o.op = .pick X Y Z) (hx : x ≠ .junk → ρ X = some x) (hy : y ≠ .junk → ρ Y = some y) (hz : z ≠ .junk → ρ Z = some z) (h : (eB x fun t => cond t y z) = a) (hj : a ≠ .junk) : op C ρ o σ = some (.val a σ) := by
 obtain ⟨b, rfl, h1⟩ := V0 h hj
 cases b with
 | true => have h1 : y = a := h1; subst h1; simp only [op, hop, hx (by simp), hy hj, Br, if_true]
 | false => have h1 : z = a := h1; subst h1; simp only [op, hop, hx (by simp), hz hj, Br, Bool.false_eq_true, if_false]
theorem Ae5 {X : Operand} {i : Nat} (hop : o.op = .extract X i) (hx : x ≠ .junk → ρ X = some x) (h : extA i x = a) (hj : a ≠ .junk) : op C ρ o σ = some (.val a σ) := by
 cases x with
 | tup vs => simp only [op, hop, hx (by simp), Hd (show Jv vs i = a from h) hj, Br]
 | _ => exact absurd h.symm hj
theorem Ac7 {t : TypeId} {fs : Array Field} {f : Nat} {fd : Field} {X : Operand} (hop : o.op = .field t X f) (h1 : C.P.underlying t = some (.struct fs)) (h2 : fs[f]? = some fd) (h3 : Ef C.P fd.type = some false) (hx : x ≠ .junk → ρ X = some x) (h : fldV fd.offset x = a) (hj : a ≠ .junk) : op C ρ o σ = some (.val a σ) := by
 cases x with
 | agg cs =>
  have := Hd (show Jv cs fd.offset = a from h) hj
  simp only [op, hop, hx (by simp), Id, h1, h2, Pa, h3, this, Br]
 | _ => exact absurd h.symm hj
end
end Go.DM.FM
namespace Go.DM.FM
open Go
def Ga : List UInt8 → Nat
 | [] => 0
 | b :: r => b.toNat + 256 * Ga r
theorem Xr (K I big acc b v : Nat) : big + (acc + b * 2 ^ K) * 2 ^ I + (0 + v * 2 ^ 0) * 2 ^ (I + (K + 8)) = big + (acc + (b + 256 * v) * 2 ^ K) * 2 ^ I := by
 rw [Nat.pow_zero, Nat.mul_one, Nat.zero_add, Nat.pow_add, Nat.pow_add, show (2 ^ 8 : Nat) = 256 from rfl, Nat.add_assoc]
 congr 1
 rw [show v * (2 ^ I * (2 ^ K * 256)) = (256 * v * 2 ^ K) * 2 ^ I by
  rw [Nat.mul_comm (2 ^ I), ← Nat.mul_assoc, ← Nat.mul_assoc, Nat.mul_comm (v * 2 ^ K) 256, ← Nat.mul_assoc], ← Nat.add_mul, Nat.add_assoc, ← Nat.add_mul]
theorem V2 (i I big acc b v : Nat) : big + (acc + b * 2 ^ i + v * 2 ^ (i + 8)) * 2 ^ I = big + (acc + (b + 256 * v) * 2 ^ i) * 2 ^ I := by
 rw [Nat.pow_add, show (2 ^ 8 : Nat) = 256 from rfl, Nat.add_assoc]
 congr 2
 rw [Nat.add_mul]
 congr 2
 rw [Nat.mul_comm (2 ^ i), ← Nat.mul_assoc, Nat.mul_comm v 256]
theorem L4 : ∀ (l : List UInt8) (i acc I big : Nat), Gx l i acc I big = big + (acc + Ga l * 2 ^ i) * 2 ^ I
 | [], i, acc, I, big => by
  show big + Nat.shiftLeft acc I = _
  rw [show Nat.shiftLeft acc I = acc * 2 ^ I from Nat.shiftLeft_eq _ _, Ga, Nat.zero_mul, Nat.add_zero]
 | b :: r, i, acc, I, big => by
  have s : ∀ x y, Nat.shiftLeft x y = x * 2 ^ y := fun x y => Nat.shiftLeft_eq _ _
  have f : ∀ (g : Nat → Nat) (n : Nat), Nat.rec (motive := fun _ => Nat) (g 0) (fun m _ => g (Nat.succ m)) n = g n := fun g n => by cases n <;> rfl
  have e : Gx (b :: r) i acc I big = cond (Nat.beq i 248) (Gx r 0 0 (I + 256) (big + Nat.shiftLeft (acc + Nat.shiftLeft b.toNat i) I)) (Gx r (i + 8) (acc + Nat.shiftLeft b.toNat i) I big) := by
   show cond (Nat.beq i 248) (Nat.rec (motive := fun _ => Nat) (Gx r 0 0 (I + 256) 0) (fun m _ => Gx r 0 0 (I + 256) (Nat.succ m)) (big + Nat.shiftLeft (acc + Nat.shiftLeft b.toNat i) I)) (Nat.rec (motive := fun _ => Nat) (Gx r (i + 8) 0 I big) (fun m _ => Gx r (i + 8) (Nat.succ m) I big) (acc + Nat.shiftLeft b.toNat i)) = _
   rw [f (fun n => Gx r 0 0 (I + 256) n), f (fun n => Gx r (i + 8) n I big)]
  rw [e, s, s, Ga]
  cases h : Nat.beq i 248 with
  | true =>
   have := Nat.eq_of_beq_eq_true h
   rw [cond_true, L4 r, ← Xr, this]
  | false => rw [cond_false, L4 r, ← V2]
theorem I3 (s : ByteArray) : Fe s = Ga s.data.toList := by
 unfold Fe
 rw [L4]; simp
theorem Jx : ∀ (l : List UInt8) (n : Nat) (b : UInt8), l[n]? = some b → Ga l / 256 ^ n % 256 = b.toNat
 | [], n, b, h => by simp at h
 | c :: r, 0, b, h => by
  simp only [List.getElem?_cons_zero, Option.some.injEq] at h
  subst h
  have := c.toNat_lt
  rw [Ga, Nat.pow_zero, Nat.div_one]; omega
 | c :: r, n + 1, b, h => by
  simp only [List.getElem?_cons_succ] at h
  have ih := Jx r n b h
  have hc := c.toNat_lt
  rw [Ga, Nat.pow_succ, Nat.mul_comm (256 ^ n), ← Nat.div_div_eq_div_mul]
  rw [show (c.toNat + 256 * Ga r) / 256 = Ga r by omega]
  exact ih
theorem Tb (a : Nat) : Nat.land a 255 = a % 256 := Nat.and_two_pow_sub_one_eq_mod a 8
theorem shr8 (a n : Nat) : Nat.shiftRight a (8 * n) = a / 256 ^ n := by
 rw [show Nat.shiftRight a (8 * n) = a / 2 ^ (8 * n) from Nat.shiftRight_eq_div_pow a (8 * n), Nat.pow_mul]
theorem V3 (s : ByteArray) (n : Nat) (b : UInt8) (h : s.data.toList[n]? = some b) : Vn s n = b.toNat := by
 unfold Vn
 rw [Tb, show Nat.mul n 8 = 8 * n from Nat.mul_comm n 8, shr8, I3]
 exact Jx _ _ _ h
theorem M6 (l : List UInt8) (K : List UInt8 → A) : ∀ (n j : Nat), j + n ≤ l.length → Ls (Ga l) n (8 * j) K = K ((l.drop j).take n)
 | 0, j, _ => by rw [List.take_zero]; rfl
 | n + 1, j, h => by
  have hj : j < l.length := by omega
  have e : Ls (Ga l) (n + 1) (8 * j) K = Ls (Ga l) n (8 * (j + 1)) (fun r => K (UInt8.ofNat (Nat.land (Nat.shiftRight (Ga l) (8 * j)) 255) :: r)) := rfl
  rw [e, M6 l _ n (j + 1) (by omega), Tb, shr8, Jx l j l[j] (List.getElem?_eq_getElem hj)]
  rw [List.drop_eq_getElem_cons hj, List.take_succ_cons, UInt8.ofNat_toNat]
section
variable {C : Cfg} {ρ : Operand → Option A} {o : Oper} {σ : St} {x a : A}
theorem Ae6 {t : TypeId} {X I : Operand} {i : A} (hop : o.op = .index t X I) (ht : C.P.underlying t = some .string) (hx : x ≠ .junk → ρ X = some x) (hi : i ≠ .junk → ρ I = some i) (h : Acw x i = a) (hj : a ≠ .junk) : op C ρ o σ = some (.val a σ) := by
 unfold Acw at h
 obtain ⟨k, z, rfl, h1⟩ := E2 h hj
 obtain ⟨n, rfl, h2⟩ := L3 h1 hj
 obtain ⟨s, rfl, h3⟩ := Ot h2 hj
 cases hb : Nat.ble (Nat.succ n) (Dt s) with
 | false => rw [hb] at h3; exact absurd h3.symm hj
 | true =>
  rw [hb] at h3
  have hn : n + 1 ≤ Dt s := Nat.le_of_ble_eq_true hb
  rw [G2] at hn
  have hlt : n < s.data.toList.length := by simp; exact hn
  have hg : s.data.toList[n]? = some s.data.toList[n] := List.getElem?_eq_getElem hlt
  have : a = .v (.int .u8 ((s.data.toList[n]).toNat : Int)) := by rw [← h3, ← V3 s n _ hg]; rfl
  rw [this]
  refine Xb hop (hx (by simp)) (hi (by simp)) ht (Int.natCast_nonneg n) ?_
  show s[n]? = some s.data.toList[n]
  have e : s[n]? = s.data[n]? := by
   have h4 : n < s.size := hn
   have h5 : n < s.data.size := hn
   rw [getElem?_pos s n h4, getElem?_pos s.data n h5]; rfl
  rw [e, ← Array.getElem?_toList]; exact hg
theorem Ou (s : ByteArray) (l h : Nat) : (⟨⟨(s.data.toList.drop l).take (h - l)⟩⟩ : ByteArray) = s.extract l h := by
 have e : (s.extract l h).data = s.data.extract l h := by simp
 have e2 : (s.data.extract l h).toList = (s.data.toList.drop l).take (h - l) := by rw [Array.toList_extract, List.extract_eq_take_drop]
 cases hs : s.extract l h with
 | mk d =>
  rw [hs] at e
  have e : d = s.data.extract l h := e
  subst e
  rw [← e2]
theorem Ac8 {t : TypeId} {X L H : Operand} {l h' : A} (hop : o.op = .slice t X (some L) (some H) none) (ht : C.P.underlying t = some .string) (hx : x ≠ .junk → ρ X = some x) (hl : l ≠ .junk → ρ L = some l) (hh : h' ≠ .junk → ρ H = some h')
  (h : Vq x l h' = a) (hj : a ≠ .junk) : op C ρ o σ = some (.val a σ) := by
 unfold Vq at h
 obtain ⟨s, rfl, h1⟩ := Ot h hj
 obtain ⟨k, z, rfl, h2⟩ := E2 h1 hj
 obtain ⟨k2, z2, rfl, h3⟩ := E2 h2 hj
 rcases Co z z2 (fun l h => cond (Nat.ble h (Dt s)) (cond (Nat.ble l h) (Ls (Fe s) (Nat.sub h l) (Nat.mul l 8) fun bs => .v (.string ⟨⟨bs⟩⟩)) .junk) .junk) .junk with ⟨m, n, rfl, rfl, e⟩ | e
 ·rw [e] at h3
  cases b1 : Nat.ble n (Dt s) with
  | false => rw [b1] at h3; exact absurd h3.symm hj
  | true =>
   cases b2 : Nat.ble m n with
   | false => rw [b1, b2] at h3; exact absurd h3.symm hj
   | true =>
    rw [b1, b2] at h3
    have c1 := Nat.le_of_ble_eq_true b1
    rw [G2] at c1
    have c2 := Nat.le_of_ble_eq_true b2
    have hlen : s.data.toList.length = s.size := by simp
    have : a = .v (.string (s.extract m n)) := by
     rw [← h3, cond_true, cond_true, I3, show Nat.mul m 8 = 8 * m from Nat.mul_comm m 8, M6 s.data.toList _ (Nat.sub n m) m (by rw [hlen]; show m + (n - m) ≤ s.size; omega)]
     rw [← Ou]; rfl
    rw [this]
    exact Xc hop (hx (by simp)) ht (.inr ⟨L, k, rfl, hl (by simp)⟩) (.inr ⟨H, k2, rfl, hh (by simp)⟩) c2 c1
 ·rw [e] at h3; exact absurd h3.symm hj
theorem Ae7 {s d : TypeId} {j k : IntKind} {X : Operand} (hop : o.op = .convert s d X) (hs : C.P.underlying s = some (.int j)) (hd : C.P.underlying d = some (.int k)) (hx : x ≠ .junk → ρ X = some x) (h : (eI x fun _ z => Hs k z) = a) (hj : a ≠ .junk) : op C ρ o σ = some (.val a σ) := by
 obtain ⟨k', z, rfl, h1⟩ := E2 h hj
 have hx := hx (by simp)
 rw [G1] at h1
 subst h1
 have hc : D8 C.P s d (.v (.int k' z)) σ = none := by simp only [D8, hs, hd]
 have hdt : Ao C ρ o σ = some (.val (.v (.int k (k.wrap z))) σ) := by
  refine Cb (u := .int k (k.wrap z)) ?_ ?_ rfl
  ·simp [hop, Op.operands, Az, hx, Bo]
  ·simp only [execOp, hop, Bg hx, Go.convert, Bz, A7 hs, A7 hd, Option.bind_some, Conv.intToInt, Cu]
 unfold op
 rw [hop]
 simp only [hx, hc]
 exact hdt
theorem p_sh {b : BinOp} {b' : BO} (hb : (b = .shl ∧ b' = .shl) ∨ (b = .shr ∧ b' = .shr)) {t u : TypeId} {X Y : Operand} {y : A} (hop : o.op = .binOp b t X Y u) (hx : x ≠ .junk → ρ X = some x) (hy : y ≠ .junk → ρ Y = some y) (h : shA b' x y = a) (hj : a ≠ .junk) : op C ρ o σ = some (.val a σ) := by
 unfold shA at h
 obtain ⟨k, n, rfl, h1⟩ := E2 h hj
 obtain ⟨k', m, rfl, h2⟩ := E2 h1 hj
 have hbits : Lu k = k.bits := by cases k <;> rfl
 rcases hb with ⟨rfl, rfl⟩ | ⟨rfl, rfl⟩
 ·have h2 : Acu k n m = a := h2
  unfold Acu at h2
  rcases Co n m (fun m n => cond (Nat.ble n (Lu k)) (wrapP k (Nat.shiftLeft m n)) .junk) .junk with ⟨p, q, rfl, rfl, e⟩ | e
  ·rw [e] at h2
   cases hq : Nat.ble q (Lu k) with
   | false => rw [hq] at h2; exact absurd h2.symm hj
   | true =>
    rw [hq, cond_true, Fg] at h2
    have hq := Nat.le_of_ble_eq_true hq
    rw [hbits] at hq
    subst h2
    refine R5 hop (hx (by simp)) (hy (by simp)) ?_ rfl
    have h0 : ¬ (Int.ofNat q < 0) := by have : (0 : Int) ≤ Int.ofNat q := Int.natCast_nonneg q; omega
    have hm : min (Int.ofNat q).toNat k.bits = q := Nat.min_eq_left hq
    simp only [binOp, Op.shift, if_neg h0, hm]
    show some (Value.int k (k.wrap (Int.ofNat p * 2 ^ q))) = _
    congr 3
    show _ = ((Nat.shiftLeft p q : Nat) : Int)
    rw [show Nat.shiftLeft p q = p * 2 ^ q from Nat.shiftLeft_eq _ _]
    push_cast
    rfl
  ·rw [e] at h2; exact absurd h2.symm hj
 ·have h2 : Acv k n m = a := h2
  unfold Acv at h2
  rcases Co n m (fun m n => cond (Nat.ble n (Lu k)) (.v (.int k (.ofNat (Nat.shiftRight m n)))) .junk) .junk with ⟨p, q, rfl, rfl, e⟩ | e
  ·rw [e] at h2
   cases hq : Nat.ble q (Lu k) with
   | false => rw [hq] at h2; exact absurd h2.symm hj
   | true =>
    rw [hq, cond_true] at h2
    have hq := Nat.le_of_ble_eq_true hq
    rw [hbits] at hq
    subst h2
    refine R5 hop (hx (by simp)) (hy (by simp)) ?_ rfl
    have h0 : ¬ (Int.ofNat q < 0) := by have : (0 : Int) ≤ Int.ofNat q := Int.natCast_nonneg q; omega
    have hm : min (Int.ofNat q).toNat k.bits = q := Nat.min_eq_left hq
    simp only [binOp, Op.shift, if_neg h0, hm]
    show some (Value.int k ((Int.ofNat p).fdiv (2 ^ q))) = _
    congr 2
    rw [show Nat.shiftRight p q = p / 2 ^ q from Nat.shiftRight_eq_div_pow _ _, Int.fdiv_eq_ediv_of_nonneg _ (Int.pow_nonneg (by decide))]
    show (p : Int) / 2 ^ q = ((p / 2 ^ q : Nat) : Int)
    push_cast
    rfl
  ·rw [e] at h2; exact absurd h2.symm hj
theorem Xs {P : Program} {t : TypeId} {s : ByteArray} {y : A} : eqA P t (.v (.string s)) y = none := by
 unfold eqA
 split <;> first | rfl | (rename_i h _; cases h) | (simp_all)
theorem Tc {b : BinOp} (hb : b = .eql ∨ b = .neq) {t u : TypeId} {X Y : Operand} {s s2 : ByteArray} {r : Bool} (hop : o.op = .binOp b t X Y u) (hx : ρ X = some (.v (.string s))) (hy : ρ Y = some (.v (.string s2)))
  (hr : det C.P (binOp b t (.string s) (.string s2)) = some (.bool r)) : op C ρ o σ = some (.val (.v (.bool r)) σ) := by
 have hd : Ao C ρ o σ = some (.val (.v (.bool r)) σ) := by
  refine Cb (u := .bool r) ?_ ?_ rfl
  ·simp [hop, Op.operands, Az, hx, hy, Bo]
  ·have hg : det C.P (eqGuard b t X Y (.string s) (.string s2)) = some () := by rcases hb with rfl | rfl <;> rfl
   simp only [execOp, hop, Bg hx, Bg hy, Bz, hg, hr, Option.bind_some, Cu]
 unfold op
 rw [hop]
 rcases hb with rfl | rfl <;> simp only [hx, hy, Xs] <;> exact hd
theorem Qf : ∀ {l m : List UInt8}, l.length = m.length → Ga l = Ga m → l = m
 | [], [], _, _ => rfl
 | [], _ :: _, h, _ => by cases h
 | _ :: _, [], h, _ => by cases h
 | a :: l, b :: m, h, e => by
  simp only [Ga] at e
  have ha := a.toNat_lt
  have hb := b.toNat_lt
  have e1 : a.toNat = b.toNat := by omega
  have e2 : Ga l = Ga m := by omega
  rw [Qf (Nat.succ.inj h) e2, UInt8.toNat_inj.1 e1]
theorem V4 (a b : ByteArray) : (a.toList == b.toList) = decide (a = b) := by
 have heq : (a.toList == b.toList) = true ↔ a = b := by rw [← beq_toListBytes]; exact ⟨Abx, fun e => by rw [e]; exact Ss _⟩
 cases h : a.toList == b.toList
 ·symm; rw [decide_eq_false_iff_not]; intro e; rw [heq.2 e] at h; cases h
 ·symm; rw [decide_eq_true_eq]; exact heq.1 h
theorem V5 (s t : ByteArray) : cond (Nat.beq (Dt s) (Dt t)) (Nat.beq (Fe s) (Fe t)) false = decide (s = t) := by
 by_cases h : s = t
 ·subst h
  rw [Nat.beq_refl, Nat.beq_refl, decide_eq_true rfl]; rfl
 ·rw [decide_eq_false h]
  cases h1 : Nat.beq (Dt s) (Dt t) with
  | false => rfl
  | true =>
   cases h2 : Nat.beq (Fe s) (Fe t) with
   | false => rfl
   | true =>
    exfalso
    have e1 := Nat.eq_of_beq_eq_true h1
    have e2 := Nat.eq_of_beq_eq_true h2
    rw [G2, G2] at e1
    rw [I3, I3] at e2
    have := Qf (l := s.data.toList) (m := t.data.toList) (by simpa using e1) e2
    apply h
    cases s with
    | mk s => cases t with
     | mk t => exact congrArg _ (Array.toList_inj.1 this)
theorem Ab3 {b : BinOp} {w : Bool} (hb : (b = .eql ∧ w = false) ∨ (b = .neq ∧ w = true)) {t u : TypeId} {X Y : Operand} {y : A} (hop : o.op = .binOp b t X Y u) (hx : x ≠ .junk → ρ X = some x) (hy : y ≠ .junk → ρ Y = some y) (h : Acx w x y = a) (hj : a ≠ .junk) : op C ρ o σ = some (.val a σ) := by
 unfold Acx at h
 obtain ⟨s, rfl, h1⟩ := Ot h hj
 obtain ⟨s2, rfl, h2⟩ := Ot h1 hj
 have he := V5 s s2
 have hv : a = .v (.bool (if w then !decide (s = s2) else decide (s = s2))) := by
  rw [← h2, ← he]
  cases Nat.beq (Dt s) (Dt s2) <;> cases Nat.beq (Fe s) (Fe s2) <;> cases w <;> rfl
 rw [hv]
 rcases hb with ⟨rfl, rfl⟩ | ⟨rfl, rfl⟩
 ·refine Tc (.inl rfl) hop (hx (by simp)) (hy (by simp)) ?_
  show some (Value.bool (s.toList == s2.toList)) = _
  rw [V4]; rfl
 ·refine Tc (.inr rfl) hop (hx (by simp)) (hy (by simp)) ?_
  show some (Value.bool (!(s.toList == s2.toList))) = _
  rw [V4]; rfl
end
end Go.DM.FM
namespace Go.DM.FM
open Go
section
variable {C : Cfg} {ρ : Operand → Option A} {o : Oper} {σ : St} {a : A}
theorem Ab4 {S : Operand → Src} {xs : List (Tmp × Src)} {ws : List A} {φ : FF} (hS : ∀ X, get (S X) ws φ ≠ .junk → ρ X = some (get (S X) ws φ)) {e : FP} (h : cOp C S o xs = .p e) (he : evP e ws φ σ = a) (hj : a ≠ .junk) : op C ρ o σ = some (.val a σ) := by
 unfold cOp at h
 simp only at h
 split at h
 ·rename_i X hop
  cases h
  exact p_mv (.inl hop) (x := a) (by intro hj; have := hS X; rw [show get (S X) ws φ = a from he] at this; exact this hj) hj
 ·rename_i X hop
  cases h
  exact p_mv (.inr hop) (x := a) (by intro hj; have := hS X; rw [show get (S X) ws φ = a from he] at this; exact this hj) hj
 ·rename_i b t X Y u hop
  split at h
  ·cases h; exact p_sh (.inl ⟨rfl, rfl⟩) hop (hS X) (hS Y) he hj
  ·cases h; exact p_sh (.inr ⟨rfl, rfl⟩) hop (hS X) (hS Y) he hj
  ·split at h
   ·rename_i hb; cases h; exact p_bin hb hop (hS X) (hS Y) he hj
   ·rename_i hb; cases h; exact Ab3 (.inl ⟨(by cases b <;> first | rfl | cases hb), rfl⟩) hop (hS X) (hS Y) he hj
   ·rename_i hb; cases h; exact Ab3 (.inr ⟨(by cases b <;> first | rfl | cases hb), rfl⟩) hop (hS X) (hS Y) he hj
   ·cases h
 ·rename_i t X hop
  cases h; exact Aez hop (hS X) he hj
 ·rename_i t X hop
  split at h
  ·rename_i h1 h2; cases h; exact p_ld hop h1 h2 (hS X) he hj
  ·rename_i h1 h2; cases h; exact Ae0 hop h1 h2 (hS X) he hj
  ·cases h
 ·split at h <;> cases h
 ·rename_i s X f hop
  split at h
  ·rename_i h1
   split at h
   ·rename_i h2
    split at h
    ·rename_i h3
     split at h
     ·cases h
     ·rename_i h4; cases h; exact Ae1 hop h1 h2 h3 h4 (hS X) he hj
    ·cases h
   ·cases h
  ·cases h
 ·rename_i s X f hop
  split at h
  ·rename_i h1
   split at h
   ·rename_i h2
    split at h
    ·rename_i h3; cases h; exact Ac7 hop h1 h2 h3 (hS X) he hj
    ·cases h
   ·cases h
  ·cases h
 ·rename_i X hop
  cases h; exact Ae2 hop (hS X) he hj
 ·rename_i t X I hop
  split at h
  ·rename_i h1
   split at h
   ·rename_i h2; cases h; exact p_ia hop h1 h2 (hS X) (hS I) he hj
   ·cases h
  ·rename_i h1
   split at h
   ·rename_i h2; cases h; exact Ae4 hop h1 h2 (hS X) (hS I) he hj
   ·cases h
  ·cases h
 ·rename_i t X I hop
  split at h
  ·rename_i h1; cases h; exact Ae6 hop h1 (hS X) (hS I) he hj
  ·cases h
 ·rename_i X Y Z hop
  cases h; exact Ac6 hop (hS X) (hS Y) (hS Z) he hj
 ·cases h
 ·split at h <;> cases h
 ·rename_i X i hop
  cases h; exact Ae5 hop (hS X) he hj
 ·rename_i s d X hop
  split at h
  ·rename_i h1 h2; cases h; exact Ae7 hop h1 h2 (hS X) he hj
  ·cases h
 ·rename_i t X lo hi hop
  split at h
  ·rename_i h1; cases h; exact Ac8 hop h1 (hS X) (hS lo) (hS hi) he hj
  ·cases h
 ·rename_i c hop
  split at h
  ·split at h <;> cases h
  ·cases h
  ·rename_i hc
   split at h
   ·rename_i X t h1 h2
    split at h
    ·rename_i h3; cases h; exact Ae3 hop hc h1 h2 h3 (hS X) he hj
    ·rename_i h3; cases h; exact Ac5 hop hc h1 h2 h3 (hS X) he hj
    ·cases h
   ·cases h
  ·cases h
 ·cases h
end
end Go.DM.FM
namespace Go.DM.FM
open Go
def VS (C : Cfg) (callG : CallF) (ρ : Operand → Option A) (o : Oper) (σ : St) (a : A) (σ1 : St) : Prop :=
 op C ρ o σ = some (.val a σ1) ∨ (op C ρ o σ = some (.skip σ1) ∧ a = und) ∨ ∃ f args σ2, op C ρ o σ = some (.call f args σ2) ∧ callG f args σ2 = some (.ret a, σ1)
def PS (C : Cfg) (callG : CallF) (ρ : Operand → Option A) (o : Oper) (σ : St) (v : A) (σ1 : St) : Prop :=
 op C ρ o σ = some (.pan v σ1) ∨ ∃ f args σ2, op C ρ o σ = some (.call f args σ2) ∧ callG f args σ2 = some (.pan v, σ1)
def Mo (C : Cfg) (callG : CallF) (ρ : Operand → Option A) (o : Oper) (σ : St) (φ : FF) (K : KA) (r : X × FF × St) : Prop :=
 (∃ a σ1, VS C callG ρ o σ a σ1 ∧ K a σ1 = some r) ∨ ∃ v σ1, PS C callG ρ o σ v σ1 ∧ r = (.pan v, φ, σ1)
theorem Fh {x : A} {K : A → RX} {e : RX} {r : X × FF × St} (h : Lt x K e = some r) : (x ≠ .junk ∧ K x = some r) ∨ (x = .junk ∧ e = some r) := by
 cases x <;> first | exact .inr ⟨rfl, h⟩ | exact .inl ⟨by simp, h⟩
section
variable {C : Cfg} {callF callG : CallF} {ρ : Operand → Option A} {o : Oper} {σ : St} {ws : List A} {φ : FF} {K : KA} {r : X × FF × St}
theorem M7 (hc : callF.le callG) {f : FuncId} {args : List A} (ho : op C ρ o σ = some (.call f args σ)) (h : Jw callF f args φ σ K = some r) : Mo C callG ρ o σ φ K r := by
 unfold Jw at h
 split at h
 ·rename_i x σ1 hf; exact .inl ⟨x, σ1, .inr (.inr ⟨f, args, σ, ho, hc _ _ _ _ hf⟩), h⟩
 ·rename_i v σ1 hf; cases h; exact .inr ⟨v, σ1, .inr ⟨f, args, σ, ho, hc _ _ _ _ hf⟩, rfl⟩
 ·cases h
theorem L5 {S : Operand → Src} (hS : ∀ X, get (S X) ws φ ≠ .junk → ρ X = some (get (S X) ws φ)) : ∀ {L : List Operand} {K : List A → RX}, Xi (L.map S) ws φ K = some r → ∃ l, C2 ρ L = some l ∧ K l = some r
 | [], K, h => ⟨[], rfl, h⟩
 | X :: L, K, h => by
  have h : Lt (get (S X) ws φ) (fun a => Xi (L.map S) ws φ fun l => K (a :: l)) none = some r := h
  rcases Fh h with ⟨h1, h2⟩ | ⟨_, h2⟩
  ·obtain ⟨l, h3, h4⟩ := L5 hS h2
   exact ⟨_ :: l, by simp only [C2, hS X h1, h3], h4⟩
  ·cases h2
theorem M8 {f : FuncId} (h : Ff C f = true) (args : List A) : Jb C f args σ = some (.call f args σ) := by
 unfold Ff at h
 unfold Jb
 split at h
 ·rename_i fn hf
  rw [Bool.and_eq_true, Bool.not_eq_true', beq_eq_false_iff_ne] at h
  rw [hf]
  simp only
  rw [if_neg h.1, if_pos h.2]
 ·cases h
theorem Ac9 (hc : callF.le callG) {S : Operand → Src} (hS : ∀ X, get (S X) ws φ ≠ .junk → ρ X = some (get (S X) ws φ)) {c : Call} {f : FuncId} (hop : o.op = .call c) (hcl : c.callee = .value (.func f)) (hf : Ff C f = true)
  (hρ : ρ (.func f) = some (.fn (.func f) [] [])) (h : Ab0 callF f (c.args.toList.map S) ws φ σ K = some r) : Mo C callG ρ o σ φ K r := by
 obtain ⟨l, h1, h2⟩ := L5 hS h
 refine M7 hc ?_ h2
 simp only [op, hop, hcl, hρ, h1, List.nil_append, List.append_nil, M8 hf]
theorem Xt (hc : callF.le callG) {S : Operand → Src} (hS : ∀ X, get (S X) ws φ ≠ .junk → ρ X = some (get (S X) ws φ)) {c : Call} {F : Operand} (hop : o.op = .call c) (hcl : c.callee = .value F)
  (h : Rz C callF (S F) (c.args.toList.map S) ws φ σ K = some r) : Mo C callG ρ o σ φ K r := by
 unfold Rz at h
 have hF := hS F
 split at h
 ·rename_i g a cp hg
  rw [hg] at hF
  cases hk : Ff C g with
  | false => rw [hk] at h; cases h
  | true =>
   rw [hk] at h
   obtain ⟨l, h1, h2⟩ := L5 hS h
   refine M7 hc ?_ h2
   simp only [op, hop, hcl, hF (by simp), h1, M8 hk]
 ·cases h
end
end Go.DM.FM
namespace Go.DM.FM
open Go
theorem V6 {x : A} {y : RX} {r : X × FF × St} (h : Acp x y = some r) : x.cells = [x] ∧ Du x = true ∧ y = some r := by
 cases x <;> first | exact ⟨rfl, rfl, h⟩ | cases h
theorem Uh (x : A) : Ry x = Du x := by cases x <;> rfl
theorem L6 : ∀ l : List A, I1 l = Bh l
 | [] => rfl
 | a :: l => by
  rw [show I1 (a :: l) = cond (Ry a) (I1 l) false from rfl, Uh, L6 l]
  unfold Bh
  rw [List.all_cons]
  cases Du a <;> rfl
section
variable {C : Cfg} {callF callG : CallF} {ρ : Operand → Option A} {o : Oper} {σ : St} {ws : List A} {φ : FF} {K : KA} {r : X × FF × St}
theorem s_st {S : Operand → Src} (hS : ∀ X, get (S X) ws φ ≠ .junk → ρ X = some (get (S X) ws φ)) {t : TypeId} {X Y : Operand} (hop : o.op = .store t X Y) (hs : Al C.P t = some 1) (h : sSt (S X) (S Y) ws φ σ K = some r) : Mo C callG ρ o σ φ K r := by
 have hX := hS X
 unfold sSt at h
 cases hx : get (S X) ws φ with
 | ptr b off =>
  rw [hx] at h hX
  have h : Lt (get (S Y) ws φ) (fun v => Acp v (Vs (Ke σ.blks b) b off v σ K)) none = some r := h
  rcases Fh h with ⟨h1, h2⟩ | ⟨_, h2⟩
  ·obtain ⟨e1, e2, h3⟩ := V6 h2
   rw [Lx] at h3
   cases hb : σ.blks.get b with
   | none => rw [hb] at h3; cases h3
   | some x =>
    rw [hb] at h3
    cases x with
    | cells cs e =>
     have h3 : cond (P8 cs off) (K und ⟨Ht (some (.cells (I0 cs off (get (S Y) ws φ)) e)) (Nat.succ b) σ.blks b, σ.next, σ.toks, σ.nextT⟩) none = some r := h3
     rw [Qb, Ac3] at h3
     by_cases hl : off < cs.length
     ·rw [decide_eq_true hl, Ly cs off _ hl] at h3
      refine .inl ⟨und, _, .inr (.inl ⟨?_, rfl⟩), h3⟩
      have hc : σ.cells b = some (cs, e) := by unfold St.cells; rw [hb]
      simp only [op, hop, hX (by simp), hS Y h1, Fp, hc, hs, e1]
      rw [if_pos ⟨rfl, by unfold Bh; rw [List.all_cons, e2]; rfl, hl⟩]
      rfl
     ·rw [decide_eq_false hl] at h3; cases h3
    | siter s p => cases h3
    | map es c => cases h3
    | miter m s e c => cases h3
  ·cases h2
 | _ => rw [hx] at h; cases h
theorem Ae8 {S : Operand → Src} (hS : ∀ X, get (S X) ws φ ≠ .junk → ρ X = some (get (S X) ws φ)) {e : TypeId} {X : Operand} (hop : o.op = .box e X) (h : Acz e (S X) ws φ σ K = some r) : Mo C callG ρ o σ φ K r := by
 have key : ∀ {a : A}, ρ X = some a → Bh a.cells = true → Lv (.cells a.cells e) σ K = some r → Mo C callG ρ o σ φ K r := by
  intro a h1 h2 h3
  unfold Lv at h3
  rw [S9] at h3
  exact .inl ⟨_, _, .inl (by simp only [op, hop, h1, h2, if_true]), h3⟩
 unfold Acz at h
 rcases Fh h with ⟨h1, h2⟩ | ⟨_, h2⟩
 ·have hx := hS X h1
  revert h1 h2 hx
  cases get (S X) ws φ with
  | agg cs =>
   intro _ h2 hx
   have h2 : cond (I1 cs) (Lv (.cells cs e) σ K) none = some r := h2
   rw [L6] at h2
   cases ha : Bh cs with
   | false => rw [ha] at h2; cases h2
   | true => rw [ha] at h2; exact key hx ha h2
  | tup vs => intro _ h2; cases h2
  | junk => intro h1; exact absurd rfl h1
  | _ => intro _ h2 hx; exact key hx rfl h2
 ·cases h2
theorem Xu {e : TypeId} {z : List A} (hop : o.op = .alloc e) (hz : Fm C.P e = some z) (h : R2 z e ws φ σ K = some r) : Mo C callG ρ o σ φ K r := by
 unfold R2 Lv at h
 rw [S9] at h
 exact .inl ⟨_, _, .inl (by simp only [op, hop, hz]), h⟩
end
end Go.DM.FM
namespace Go.DM.FM
open Go
section
variable {C : Cfg} {callF callG : CallF} {ρ : Operand → Option A} {o : Oper} {σ : St} {ws : List A} {φ : FF} {K : KA} {r : X × FF × St}
theorem Qg {S : Operand → Src} (hS : ∀ X, get (S X) ws φ ≠ .junk → ρ X = some (get (S X) ws φ)) : ∀ {L : List Tmp} {K : List (Tmp × A) → RX}, Acy (L.map fun t => (t, S (.tmp t))) ws φ K = some r → ∃ l, (∀ t a, l.lookup t = some a → ρ (.tmp t) = some a) ∧ K l = some r
 | [], K, h => ⟨[], fun t a h => by simp at h, h⟩
 | X :: L, K, h => by
  have h : Lt (get (S (.tmp X)) ws φ) (fun a => Acy (L.map fun t => (t, S (.tmp t))) ws φ fun l => K ((X, a) :: l)) none = some r := h
  rcases Fh h with ⟨h1, h2⟩ | ⟨_, h2⟩
  ·obtain ⟨l, h3, h4⟩ := Qg hS h2
   refine ⟨_, fun t a ht => ?_, h4⟩
   rw [List.lookup_cons] at ht
   by_cases he : t = X
   ·subst he
    simp at ht
    rw [← ht]; exact hS _ h1
   ·have : (t == X) = false := by simpa using he
    rw [this] at ht
    exact h3 t a ht
  ·cases h2
theorem V7 (hc : callF.le callG) (hR : ∀ x, (∀ t, x ≠ Operand.tmp t) → ρ x = Vr C [] x) {S : Operand → Src} (hS : ∀ X, get (S X) ws φ ≠ .junk → ρ X = some (get (S X) ws φ)) (h : Ac0 C callF o ((Kf o).map fun t => (t, S (.tmp t))) ws φ σ K = some r) : Mo C callG ρ o σ φ K r := by
 unfold Ac0 at h
 obtain ⟨l, hl, h2⟩ := Qg hS h
 have hm : ∀ x a, Vr C l x = some a → ρ x = some a := by
  intro x a hx
  cases x with
  | tmp t => exact hl t a hx
  | const v => rw [hR _ (fun t => by simp)]; exact hx
  | global g => rw [hR _ (fun t => by simp)]; exact hx
  | func f => rw [hR _ (fun t => by simp)]; exact hx
 split at h2
 ·rename_i x σ1 ho; exact .inl ⟨x, σ1, .inl (Bm hm ho), h2⟩
 ·rename_i σ1 ho; exact .inl ⟨und, σ1, .inr (.inl ⟨Bm hm ho, rfl⟩), h2⟩
 ·rename_i f args σ1 ho
  unfold Jw at h2
  have ho := Bm hm ho
  split at h2
  ·rename_i x σ2 hf; exact .inl ⟨x, σ2, .inr (.inr ⟨f, args, σ1, ho, hc _ _ _ _ hf⟩), h2⟩
  ·rename_i v σ2 hf; cases h2; exact .inr ⟨v, σ2, .inr ⟨f, args, σ1, ho, hc _ _ _ _ hf⟩, rfl⟩
  ·cases h2
 ·rename_i x σ1 ho; cases h2; exact .inr ⟨x, σ1, .inl (Bm hm ho), rfl⟩
 ·cases h2
theorem Ab5 (hc : callF.le callG) (hR : ∀ x, (∀ t, x ≠ Operand.tmp t) → ρ x = Vr C [] x) {S : Operand → Src} (hS : ∀ X, get (S X) ws φ ≠ .junk → ρ X = some (get (S X) ws φ)) {e : FX} (he : cOp C S o ((Kf o).map fun t => (t, S (.tmp t))) = .x e)
  (h : step C callF e ws φ σ K = some r) : Mo C callG ρ o σ φ K r := by
 have hf : ∀ f, ρ (.func f) = some (.fn (.func f) [] []) := fun f => hR _ (fun t => by simp)
 unfold cOp at he
 simp only at he
 repeat' split at he
 all_goals first
  | (cases he; exact V7 hc hR hS h)
  | (cases he; done)
  | skip
 ·rename_i t X Y hop _ _ _ hs; cases he; exact s_st hS hop hs h
 ·rename_i e X hop; cases he; exact Ae8 hS hop h
 ·rename_i e hop _ z hz; cases he; exact Xu (ws := ws) hop hz h
 ·rename_i c hop _ f hcl hk; cases he; exact Ac9 hc hS hop hcl hk (hf f) h
 ·rename_i c hop _ F _ hcl; cases he; exact Xt hc hS hop hcl h
end
end Go.DM.FM
namespace Go.DM.FM
open Go
structure FrI (live : Nat) (φ : Fr) (ψ : FF) : Prop where
 val : ∀ t, t < 255 → Ch ψ t ≠ .junk → φ.s.get t = some (Ch ψ t)
 dead : ∀ t, t < 255 → live.testBit t = false → Ch ψ t = .junk
 ds : H5 ψ = φ.ds
theorem Kp (ψ : FF) : get Om [] ψ = Ch ψ 255 := rfl
theorem L7 {ψ ψ' : FF} (h : Ch ψ 255 = Ch ψ' 255) : H5 ψ = H5 ψ' := by
 unfold H5
 rw [Kp, Kp, h]
theorem FrI.skip {live : Nat} {φ : Fr} {ψ : FF} (h : FrI live φ ψ) {d : Nat} (hd : live.testBit d = false) (a : A) : FrI live (φ.set d a) ψ := by
 refine ⟨fun t ht hj => ?_, h.dead, h.ds⟩
 simp only [Fr.set, Tr.get_set]
 by_cases e : t = d
 ·subst e; exact absurd (h.dead t ht hd) hj
 ·rw [if_neg e]; exact h.val t ht hj
theorem FrI.set {live : Nat} {φ : Fr} {ψ : FF} (h : FrI live φ ψ) {d : Nat} (hd : live.testBit d = true) (hlt : d < 255) (a : A) : FrI live (φ.set d a) (setF (slt d) a ψ) := by
 refine ⟨fun t ht hj => ?_, fun t ht hl => ?_, ?_⟩
 ·simp only [Fr.set, Tr.get_set]
  by_cases e : t = d
  ·subst e; rw [if_pos rfl, El]
  ·rw [Em ψ (by omega) (by omega) e] at hj ⊢
   rw [if_neg e]; exact h.val t ht hj
 ·have e : t ≠ d := by rintro rfl; rw [hd] at hl; cases hl
  rw [Em ψ (by omega) (by omega) e]
  exact h.dead t ht hl
 ·show _ = φ.ds
  rw [← h.ds]
  exact L7 (Em ψ (by omega) (by omega) (by omega) a)
def AlI (al : List (Tmp × AL)) (ws : List A) (φ : Fr) : Prop := ∀ t e, al.lookup t = some e → match e with
 | .loc i => i < ws.length ∧ φ.s.get t = some (Jv ws (ws.length - 1 - i))
 | .con a => φ.s.get t = some a
theorem Td {C : Cfg} {live : Nat} {φ : Fr} {ψ : FF} (h : FrI live φ ψ) {al : List (Tmp × AL)} {ws : List A} (ha : AlI al ws φ) : ∀ X, get (Gm C al ws.length X) ws ψ ≠ .junk → ev C φ X = some (get (Gm C al ws.length X) ws ψ) := by
 intro X hj
 cases X with
 | tmp t =>
  have e : Gm C al ws.length (.tmp t) = match al.lookup t with
    | some (.loc i) => .l (ws.length - 1 - i)
    | some (.con a) => .c a
    | none => Vv t := rfl
  rw [e] at hj ⊢
  cases hl : al.lookup t with
  | none =>
   rw [hl] at hj
   simp only [Vv] at hj ⊢
   by_cases ht : t < 255
   ·rw [if_pos ht] at hj ⊢
    exact h.val t ht hj
   ·rw [if_neg ht] at hj; exact absurd rfl hj
  | some e =>
   have := ha t e hl
   cases e with
   | loc i => exact this.2
   | con a => exact this
 | const v =>
  have e : Gm C al ws.length (.const v) = match Ee v with
    | some a => .c a
    | none => .c .junk := rfl
  rw [e] at hj ⊢
  simp only [ev]
  cases hv : Ee v with
  | none => rw [hv] at hj; exact absurd rfl hj
  | some a => rfl
 | global g =>
  have e : Gm C al ws.length (.global g) = match C.glob g with
    | some a => .c a
    | none => .c .junk := rfl
  rw [e] at hj ⊢
  simp only [ev]
  cases hv : C.glob g with
  | none => rw [hv] at hj; exact absurd rfl hj
  | some a => rfl
 | func f => rfl
end Go.DM.FM
namespace Go.DM.FM
open Go
inductive RunV (C : Cfg) (callG : CallF) (nt : Nat) (ops : Array Oper) : List Oper → Fr → St → Fr → St → Prop
 | nil {φ : Fr} {σ : St} : RunV C callG nt ops [] φ σ φ σ
 | yes {o : Oper} {r : List Oper} {φ φ1 φ' : Fr} {σ σ1 σ' : St} {a : A} : Ae ops φ o = some true → VS C callG (ev C φ) o σ a σ1 → Bb nt φ o.dst a = some φ1 → RunV C callG nt ops r φ1 σ1 φ' σ' → RunV C callG nt ops (o :: r) φ σ φ' σ'
 | no {o : Oper} {r : List Oper} {φ φ1 φ' : Fr} {σ σ' : St} : Ae ops φ o = some false → Bb nt φ o.dst und = some φ1 → RunV C callG nt ops r φ1 σ φ' σ' → RunV C callG nt ops (o :: r) φ σ φ' σ'
section
variable {C : Cfg} {callF callG : CallF} {nt live : Nat} {ops : Array Oper}
theorem RunV.run {l : List Oper} {φ φ' : Fr} {σ σ' : St} (h : RunV C callG nt ops l φ σ φ' σ') : Aw C callG nt ops l φ σ = some (.normal, φ', σ') := by
 induction h with
 | nil => rfl
 | yes hw hv hp _ ih =>
  rcases hv with hv | ⟨hv, rfl⟩ | ⟨f, args, σ2, hv, hv2⟩
  ·simp only [Aw, hw, hv, hp, ih]
  ·simp only [Aw, hw, hv, hp, ih]
  ·simp only [Aw, hw, hv, hv2, hp, ih]
 | no hw hp _ ih => simp only [Aw, hw, hp, ih]
def RR (C : Cfg) (callG : CallF) (nt live : Nat) (ops : Array Oper) (l : List Oper) (φ : Fr) (σ : St) (x : X) (ψ' : FF) (σ' : St) : Prop :=
 (x = .normal ∧ ∃ φ', RunV C callG nt ops l φ σ φ' σ' ∧ FrI live φ' ψ') ∨ ∃ v φ', x = .pan v ∧ Aw C callG nt ops l φ σ = some (.pan v, φ', σ') ∧ FrI live φ' ψ'
theorem RR.yes {o : Oper} {r : List Oper} {φ φ1 : Fr} {σ σ1 σ' : St} {a : A} {x : X} {ψ' : FF} (hw : Ae ops φ o = some true) (hv : VS C callG (ev C φ) o σ a σ1) (hp : Bb nt φ o.dst a = some φ1) (h : RR C callG nt live ops r φ1 σ1 x ψ' σ') : RR C callG nt live ops (o :: r) φ σ x ψ' σ' := by
 rcases h with ⟨rfl, φ', h1, h2⟩ | ⟨v, φ', rfl, h1, h2⟩
 ·exact .inl ⟨rfl, φ', .yes hw hv hp h1, h2⟩
 ·refine .inr ⟨v, φ', rfl, ?_, h2⟩
  rcases hv with hv | ⟨hv, rfl⟩ | ⟨f, args, σ2, hv, hv2⟩
  ·simp only [Aw, hw, hv, hp, h1]
  ·simp only [Aw, hw, hv, hp, h1]
  ·simp only [Aw, hw, hv, hv2, hp, h1]
theorem RR.no {o : Oper} {r : List Oper} {φ φ1 : Fr} {σ σ' : St} {x : X} {ψ' : FF} (hw : Ae ops φ o = some false) (hp : Bb nt φ o.dst und = some φ1) (h : RR C callG nt live ops r φ1 σ x ψ' σ') : RR C callG nt live ops (o :: r) φ σ x ψ' σ' := by
 rcases h with ⟨rfl, φ', h1, h2⟩ | ⟨v, φ', rfl, h1, h2⟩
 ·exact .inl ⟨rfl, φ', .no hw hp h1, h2⟩
 ·exact .inr ⟨v, φ', rfl, by simp only [Aw, hw, hp, h1], h2⟩
theorem RR.pan {o : Oper} {r : List Oper} {φ : Fr} {σ σ1 : St} {v : A} {ψ : FF} (hw : Ae ops φ o = some true) (hv : PS C callG (ev C φ) o σ v σ1) (h : FrI live φ ψ) : RR C callG nt live ops (o :: r) φ σ (.pan v) ψ σ1 := by
 refine .inr ⟨v, φ, rfl, ?_, h⟩
 rcases hv with hv | ⟨f, args, σ2, hv, hv2⟩
 ·simp only [Aw, hw, hv]
 ·simp only [Aw, hw, hv, hv2]
theorem wanted_none {φ : Fr} {o : Oper} (h : o.guard = none) : Ae ops φ o = some true := by simp only [Ae, h]
theorem Kg {φ : Fr} {o : Oper} {j : Nat} {want b : Bool} {t : Tmp} (h : o.guard = some (j, want)) (ht : (ops[j]?).bind (·.dst) = some t) (hv : φ.s.get t = some (.v (.bool b))) : Ae ops φ o = some (b == want) := by
 simp only [Ae, h, C8, ht, hv]
 cases b <;> cases want <;> rfl
theorem Ov {φ : Fr} {o : Oper} {j : Nat} {want : Bool} {t : Tmp} {v : A} (h : o.guard = some (j, want)) (ht : (ops[j]?).bind (·.dst) = some t) (hv : φ.s.get t = some v) (hj : v ≠ .junk) (hb : ∀ b, v ≠ .v (.bool b)) : Ae ops φ o = some false := by
 simp only [Ae, h, C8, ht, hv]
 cases v with
 | junk => exact absurd rfl hj
 | v u => cases u <;> first | rfl | exact absurd rfl (hb _)
 | _ => rfl
noncomputable def Ui (w : Option Src) (a : A) (ψ : FF) : FF := match w with
 | some s => setF s a ψ
 | none => ψ
noncomputable def wOf (live : Nat) (o : Oper) : Option Src := match o.dst with
 | some d => if live.testBit d then some (slt d) else none
 | none => none
theorem Ab6 {e : FP} {g : Option FX} {w : Option Src} {r : FL} {ws : List A} {ψ : FF} {σ : St} :
  H4 C callF (mkL (.p e) g w r) ws ψ σ = Lt (evP e ws ψ σ) (fun x => H4 C callF r (x :: ws) (Ui w x ψ) σ) (Vt C callF g ws ψ σ fun x σ' => H4 C callF r (x :: ws) (Ui w x ψ) σ') := by cases w <;> rfl
theorem Ab7 {e : FX} {g : Option FX} {w : Option Src} {r : FL} {ws : List A} {ψ : FF} {σ : St} :
  H4 C callF (mkL (.x e) g w r) ws ψ σ = step C callF e ws ψ σ fun x σ' => H4 C callF r (x :: ws) (Ui w x ψ) σ' := by cases w <;> rfl
theorem M9 {x : A} {ws : List A} {i : Nat} (h : i < ws.length) : Jv (x :: ws) ((x :: ws).length - 1 - i) = Jv ws (ws.length - 1 - i) := by
 rw [show (x :: ws).length - 1 - i = (ws.length - 1 - i) + 1 by simp only [List.length_cons]; omega]; rfl
theorem AlI.next {al : List (Tmp × AL)} {ws : List A} {φ : Fr} (h : AlI al ws φ) (o : Oper) (a : A) : AlI (alD o al (.loc ws.length)) (a :: ws) (setO φ o.dst a) := by
 intro t e hl
 unfold alD at hl
 rw [Dm]
 cases hd : o.dst with
 | none =>
  rw [hd] at hl
  simp only at hl
  rw [if_neg (by simp)]
  have := h t e hl
  cases e with
  | loc i => exact ⟨Nat.lt_succ_of_lt this.1, by rw [M9 this.1]; exact this.2⟩
  | con b => exact this
 | some d =>
  rw [hd] at hl
  simp only [List.lookup_cons] at hl
  by_cases e1 : t = d
  ·subst e1
   rw [beq_self_eq_true] at hl
   cases hl
   rw [if_pos rfl]
   refine ⟨by simp, ?_⟩
   rw [show (a :: ws).length - 1 - ws.length = 0 by simp]; rfl
  ·rw [show (t == d) = false by simpa using e1] at hl
   rw [if_neg (by intro c; cases c; exact e1 rfl)]
   have := h t e hl
   cases e with
   | loc i => exact ⟨Nat.lt_succ_of_lt this.1, by rw [M9 this.1]; exact this.2⟩
   | con b => exact this
def AlV (ws : List A) (x : AL) (a : A) : Prop := match x with
 | .loc i => i < ws.length ∧ a = Jv ws (ws.length - 1 - i)
 | .con b => a = b
theorem AlI.alias {al : List (Tmp × AL)} {ws : List A} {φ : Fr} (h : AlI al ws φ) {d : Tmp} {a : A} {x : AL} (hx : AlV ws x a) : AlI ((d, x) :: al) ws (φ.set d a) := by
 intro t e hl
 simp only [List.lookup_cons] at hl
 simp only [Fr.set, Tr.get_set]
 by_cases e1 : t = d
 ·subst e1
  rw [beq_self_eq_true] at hl
  cases hl
  rw [if_pos rfl]
  cases x with
  | loc i => exact ⟨hx.1, by rw [hx.2]⟩
  | con b => exact congrArg some hx
 ·rw [show (t == d) = false by simpa using e1] at hl
  rw [if_neg e1]
  exact h t e hl
theorem R7 {a b : Nat} (h : Nat.blt a b = true) : a < b := Nat.le_of_ble_eq_true h
theorem Xv {φ : Fr} {ψ : FF} {al : List (Tmp × AL)} {ws : List A} (hF : FrI live φ ψ) (hA : AlI al ws φ) (hnt : nt ≤ 255) {o : Oper} (hd : P9 nt o = true) (a : A) :
  Bb nt φ o.dst a = some (setO φ o.dst a) ∧ FrI live (setO φ o.dst a) (Ui (wOf live o) a ψ) ∧ AlI (alD o al (.loc ws.length)) (a :: ws) (setO φ o.dst a) := by
 refine ⟨?_, ?_, hA.next o a⟩
 ·unfold P9 at hd
  cases h : o.dst with
  | none => rfl
  | some d =>
   rw [h] at hd
   have : d < nt := R7 hd
   simp only [Bb, if_pos this, setO]
 ·unfold P9 at hd
  unfold wOf
  cases h : o.dst with
  | none => exact hF
  | some d =>
   rw [h] at hd
   have hlt : d < 255 := Nat.lt_of_lt_of_le (R7 hd) hnt
   simp only
   cases hl : live.testBit d with
   | true => exact hF.set hl hlt a
   | false => exact hF.skip hl a
theorem Ow {φ : Fr} : ∀ x, (∀ t, x ≠ Operand.tmp t) → ev C φ x = Vr C [] x := by
 intro x h
 cases x with
 | tmp t => exact absurd rfl (h t)
 | _ => rfl
theorem R8 {φ : Fr} {x : Operand} {a : A} (h : On C x = some a) : ev C φ x = some a := by
 cases x with
 | tmp t => cases h
 | _ => exact h
theorem V8 {w : Bool} {x y a : A} (h : grdA w x y = a) (hj : a ≠ .junk) : x ≠ .junk ∧ ((x = .v (.bool w) ∧ y = a) ∨ ((∀ b, x = .v (.bool b) → b ≠ w) ∧ a = und)) := by
 have nb : ∀ {z : A}, (∀ b, z ≠ .v (.bool b)) → ∀ b, z = .v (.bool b) → b ≠ w := fun hz b e => absurd e (hz b)
 cases x with
 | junk => exact absurd h.symm hj
 | v u =>
  cases u with
  | bool b =>
   refine ⟨by simp, ?_⟩
   have h : cond (Bool.rec (not b) b w) y und = a := h
   cases b <;> cases w <;> first | exact .inl ⟨rfl, h⟩ | exact .inr ⟨by intro b e; cases e; simp, h.symm⟩
  | _ => exact ⟨by simp, .inr ⟨nb (by simp), h.symm⟩⟩
 | _ => exact ⟨by simp, .inr ⟨nb (by simp), h.symm⟩⟩
theorem Qh {g : Src} {w : Bool} {e : FX} {ih : Stp} {ws : List A} {ψ : FF} {σ : St} {K : KA} {r : X × FF × St} (h : Ac1 g w e ih ws ψ σ K = some r) :
  get g ws ψ ≠ .junk ∧ ((get g ws ψ = .v (.bool w) ∧ ih ws ψ σ K = some r) ∨ ((∀ b, get g ws ψ = .v (.bool b) → b ≠ w) ∧ K und σ = some r)) := by
 unfold Ac1 at h
 split at h
 ·rename_i b hb
  rw [hb]
  refine ⟨by simp, ?_⟩
  cases b <;> cases w <;> first | exact .inl ⟨rfl, h⟩ | exact .inr ⟨by intro b e; cases e; simp, h⟩
 ·cases h
 ·rename_i h1 h2
  exact ⟨h2, .inr ⟨fun b e => absurd e (h1 b), h⟩⟩
theorem Jy {φ : Fr} {o : Oper} {j : Nat} {want : Bool} {t : Tmp} {v : A} (h : o.guard = some (j, want)) (ht : (ops[j]?).bind (·.dst) = some t) (hv : φ.s.get t = some v) (hj : v ≠ .junk) : (v = .v (.bool want) → Ae ops φ o = some true) ∧ ((∀ b, v = .v (.bool b) → b ≠ want) → Ae ops φ o = some false) := by
 refine ⟨fun e => ?_, fun e => ?_⟩
 ·subst e
  rw [Kg h ht hv]; cases want <;> rfl
 ·by_cases hb : ∃ b, v = .v (.bool b)
  ·obtain ⟨b, rfl⟩ := hb
   rw [Kg h ht hv]
   have := e b rfl
   cases b <;> cases want <;> first | rfl | exact absurd rfl this
  ·exact Ov h ht hv hj (fun b c => hb ⟨b, c⟩)
theorem R9 {al : List (Tmp × AL)} {o : Oper} {w : Option Src} {a : AL} (h : Lw C al o w = some a) : ∃ X d, o.op = .move X ∧ o.dst = some d ∧ w = none ∧ ((∃ t, X = .tmp t ∧ al.lookup t = some a) ∨ ∃ v, a = .con v ∧ On C X = some v) := by
 unfold Lw at h
 split at h
 ·rename_i X d hop hd
  refine ⟨X, d, hop, hd, rfl, ?_⟩
  split at h
  ·rename_i t; exact .inl ⟨t, rfl, h⟩
  ·rename_i X _
   split at h
   ·rename_i v hv; cases h; exact .inr ⟨v, rfl, hv⟩
   ·cases h
 ·cases h
theorem Ox (hc : callF.le callG) (hnt : nt ≤ 255) : ∀ (l : List Oper) {al : List (Tmp × AL)} {ws : List A} {φ : Fr} {ψ ψ' : FF} {σ σ' : St} {x : X}, FrI live φ ψ → AlI al ws φ → H4 C callF (cL C live nt ops l al ws.length) ws ψ σ = some (x, ψ', σ') → RR C callG nt live ops l φ σ x ψ' σ'
 | [], al, ws, φ, ψ, ψ', σ, σ', x, hF, hA, h => by
  have h : some (X.normal, ψ, σ) = some (x, ψ', σ') := h
  cases h
  exact .inl ⟨rfl, φ, .nil, hF⟩
 | o :: l, al, ws, φ, ψ, ψ', σ, σ', x, hF, hA, h => by
  have ih := @Ox hc hnt l
  have hfail : ∀ {ws : List A}, H4 C callF Vw ws ψ σ = none := rfl
  have hS := Td (C := C) hF hA
  rw [cL] at h
  cases hd : P9 nt o with
  | false => rw [hd] at h; simp only [Bool.false_eq_true, if_false] at h; rw [hfail] at h; cases h
  | true =>
   rw [hd] at h
   simp only [if_true] at h
   have adv := fun a => Xv hF hA hnt hd a
   have next : ∀ {a : A} {σ1 : St}, H4 C callF (cL C live nt ops l (alD o al (.loc ws.length)) (ws.length + 1)) (a :: ws) (Ui (wOf live o) a ψ) σ1 = some (x, ψ', σ') → RR C callG nt live ops l (setO φ o.dst a) σ1 x ψ' σ' :=
    fun {a σ1} h => ih (ws := a :: ws) (adv a).2.1 (adv a).2.2 h
   have fin : Ae ops φ o = some true → Mo C callG (ev C φ) o σ ψ (fun x σ' => H4 C callF (cL C live nt ops l (alD o al (.loc ws.length)) (ws.length + 1)) (x :: ws) (Ui (wOf live o) x ψ) σ') (x, ψ', σ') → RR C callG nt live ops (o :: l) φ σ x ψ' σ' := by
    intro hw hs
    rcases hs with ⟨a, σ1, h1, h2⟩ | ⟨v, σ1, h1, h2⟩
    ·exact .yes hw h1 (adv a).1 (next h2)
    ·cases h2
     exact .pan hw h1 hF
   cases hg : o.guard with
   | some gw =>
    obtain ⟨j, want⟩ := gw
    rw [hg] at h
    simp only at h
    cases ht : (ops[j]?).bind (·.dst) with
    | none => rw [ht] at h; simp only at h; rw [hfail] at h; cases h
    | some t =>
     rw [ht] at h
     simp only at h
     have hgt := hS (.tmp t)
     change _ = some (x, ψ', σ') at h
     cases hco : cOp C (Gm C al ws.length) o ((Kf o).map fun t => (t, Gm C al ws.length (.tmp t))) with
     | p e =>
      rw [hco] at h
      have h := Ab6.symm.trans h
      rcases Fh h with ⟨h1, h2⟩ | ⟨_, h2⟩
      ·obtain ⟨g1, g2⟩ := V8 (w := want) (x := get (Gm C al ws.length (.tmp t)) ws ψ) (y := evP e ws ψ σ) rfl h1
       have hv := Jy hg ht (hgt g1) g1
       rcases g2 with ⟨g2, g3⟩ | ⟨g2, g3⟩
       ·exact .yes (hv.1 g2) (.inl (Ab4 hS hco g3 h1)) (adv _).1 (next h2)
       ·have g3 : evP (.grd (Gm C al ws.length (.tmp t)) want e) ws ψ σ = und := g3
        rw [g3] at h2
        exact .no (hv.2 g2) (adv _).1 (next h2)
      ·obtain ⟨g1, g2⟩ := Qh (e := .gen o ((Kf o).map fun t => (t, Gm C al ws.length (.tmp t)))) h2
       have hv := Jy hg ht (hgt g1) g1
       rcases g2 with ⟨g2, g3⟩ | ⟨g2, g3⟩
       ·exact fin (hv.1 g2) (V7 hc Ow hS g3)
       ·exact .no (hv.2 g2) (adv _).1 (next g3)
     | x e =>
      rw [hco] at h
      have h := Ab7.symm.trans h
      obtain ⟨g1, g2⟩ := Qh (e := e) h
      have hv := Jy hg ht (hgt g1) g1
      rcases g2 with ⟨g2, g3⟩ | ⟨g2, g3⟩
      ·exact fin (hv.1 g2) (Ab5 hc Ow hS hco g3)
      ·exact .no (hv.2 g2) (adv _).1 (next g3)
   | none =>
    have hw := wanted_none (ops := ops) (φ := φ) hg
    rw [hg] at h
    simp only at h
    change H4 C callF (match Lw C al o (wOf live o) with
     | some a => cL C live nt ops l (alD o al a) ws.length
     | none => (mkL (cOp C (Gm C al ws.length) o ((Kf o).map fun t => (t, Gm C al ws.length (.tmp t)))) (some (.gen o ((Kf o).map fun t => (t, Gm C al ws.length (.tmp t))))) (wOf live o) (cL C live nt ops l (alD o al (.loc ws.length)) (ws.length + 1)))) ws ψ σ = _ at h
    cases hsk : Lw C al o (wOf live o) with
    | some a =>
     rw [hsk] at h
     simp only at h
     obtain ⟨X, d, hop, hdst, hw0, hx⟩ := R9 hsk
     have hv : ∃ v, ev C φ X = some v ∧ AlV ws a v := by
      rcases hx with ⟨t, rfl, hl⟩ | ⟨v, rfl, hl⟩
      ·have := hA t a hl
       cases a with
       | loc i => exact ⟨_, this.2, this.1, rfl⟩
       | con b => exact ⟨b, this, rfl⟩
      ·exact ⟨v, R8 hl, rfl⟩
     obtain ⟨v, hv1, hv2⟩ := hv
     have e1 : setO φ o.dst v = φ.set d v := by rw [hdst]; rfl
     have e2 : alD o al a = (d, a) :: al := by unfold alD; rw [hdst]
     rw [e2] at h
     refine .yes (a := v) (σ1 := σ) hw (.inl (by simp only [op, hop, hv1, Br])) (adv v).1 ?_
     have hF1 := (adv v).2.1
     rw [hw0, e1] at hF1
     rw [e1]
     exact ih hF1 (hA.alias hv2) h
    | none =>
     rw [hsk] at h
     simp only at h
     cases hco : cOp C (Gm C al ws.length) o ((Kf o).map fun t => (t, Gm C al ws.length (.tmp t))) with
     | p e =>
      rw [hco] at h
      have h := Ab6.symm.trans h
      rcases Fh h with ⟨h1, h2⟩ | ⟨_, h2⟩
      ·exact .yes hw (.inl (Ab4 hS hco rfl h1)) (adv _).1 (next h2)
      ·exact fin hw (V7 hc Ow hS h2)
     | x e =>
      rw [hco] at h
      have h := Ab7.symm.trans h
      exact fin hw (Ab5 hc Ow hS hco h)
end
end Go.DM.FM
namespace Go.DM.FM
open Go
section
variable {C : Cfg} {callG : CallF} {nt : Nat} {ops : Array Oper}
theorem Na {ρ : Operand → Option A} {o : Oper} {σ : St} {r : R} (h : op C ρ o σ = some r) (hq : isQuiet C o = true) : ∃ x σ', r = .val x σ' := by
 have hdet : ∀ {r}, Ao C ρ o σ = some r → ∃ x σ', r = .val x σ' := by
  intro r h
  unfold Ao Kz at h
  split at h
  ·split at h
   ·split at h
    ·cases h; exact ⟨_, _, rfl⟩
    ·cases h
   ·cases h
  ·cases h
 have hw : ∀ {y : Option A} {r}, Br y σ = some r → ∃ x σ', r = .val x σ' := by
  intro y r h
  cases y with
  | none => cases h
  | some y => cases h; exact ⟨_, _, rfl⟩
 cases hop : o.op <;> simp only [hop, isQuiet, Bool.false_eq_true] at hq <;> simp only [op, hop] at h
 case buildSlice t len parts =>
  have hm : C.mutB t = false := by simpa using hq
  split at h
  case h_2 => cases h
  rw [if_neg (by simp [hm])] at h
  exact hw h
 case call c =>
  cases hc : c.callee <;> simp only [hc, Bool.false_eq_true] at hq <;> simp only [hc] at h
  rename_i b
  unfold Bd at h
  cases b <;> simp only [Bool.false_eq_true] at hq
  all_goals
   repeat' split at h
  all_goals first | exact hdet h | contradiction | (cases h; done) | (cases h; exact ⟨_, _, rfl⟩)
 case slice t y lo hi mx =>
  cases mx with
  | some m => simp only at h; cases h
  | none =>
   simp only at h
   repeat' split at h
   all_goals first | exact hdet h | (cases h; done) | (cases h; exact ⟨_, _, rfl⟩)
 all_goals
  repeat' split at h
 all_goals first | exact hdet h | exact hw h | (cases h; done) | (cases h; exact ⟨_, _, rfl⟩)
theorem Ada {ρ : Operand → Option A} {o : Oper} {σ σ' : St} {x : A} (h : op C ρ o σ = some (.val x σ')) (hq : isQuiet C o = true) (hs : F9 C o = true) : opQ C ρ o σ = some x ∧ σ' = σ := by
 have hms : ∀ t y lo hi mx b p l c, o.op = .slice t y lo hi mx → ρ y ≠ some (.ms b p l c) := by
  intro t y lo hi mx b p l c hop hy
  simp only [F9, hop] at hs
  split at hs
  ·rename_i hu
   cases mx with
   | some m => simp only [op, hop] at h; cases h
   | none =>
    simp only [op, hop, hy] at h
    have hd : Ao C ρ o σ = none := by
     unfold Ao
     rw [if_neg]
     simp [hop, Op.operands, Az, hy, Bo]
    split at h
    ·rename_i e _ _
     cases e
     simp only [Dw, hu] at h
     rw [hd] at h; cases h
    ·cases h
  ·cases hs
 refine ⟨?_, Pr h hq hms⟩
 have hq' := hq
 unfold opQ
 cases hop : o.op <;> simp only [hop, isQuiet, Bool.false_eq_true] at hq' <;> simp only [h]
 case buildSlice t len parts =>
  have hm : C.mutB t = false := by simpa using hq'
  rw [if_neg (by simp [hm])]
 case slice t z lo hi mx =>
  split
  ·rename_i hz; exact absurd hz (hms _ _ _ _ _ _ _ _ _ hop)
  ·rfl
 case call c =>
  cases hc : c.callee <;> simp only [hc, Bool.false_eq_true] at hq'
  rename_i b
  cases b <;> simp only [Bool.false_eq_true] at hq' <;> rfl
theorem L8 {ρ : Operand → Option A} {o : Oper} (h : S7 o = true) (hq : isQuiet C o = true) : Gg C ρ o = true := by
 unfold S7 at h
 unfold isQuiet at hq
 unfold Gg
 cases hop : o.op <;> simp only [hop] at h hq ⊢ <;> first | rfl | exact hq | cases h
theorem Te {bef : Array Nat} (h : Ue C ops bef = true) {j : Nat} {o : Oper} (ho : ops[j]? = some o) : F9 C o = true ∧ (isQuiet C o = true → S7 o = true ∨ ∀ i p, ops[i]? = some p → isQuiet C p = false → (i < j → bfr bef i j = true) ∧ (j < i → bfr bef j i = true)) := by
 unfold Ue at h
 rw [List.all_eq_true] at h
 have hj : j < ops.size := by
  rcases Nat.lt_or_ge j ops.size with h' | h'
  ·exact h'
  ·rw [Array.getElem?_eq_none h'] at ho; cases ho
 have h1 := h j (List.mem_range.2 hj)
 rw [ho] at h1
 simp only [Bool.and_eq_true, Bool.or_eq_true, Bool.not_eq_true'] at h1
 refine ⟨h1.1, fun hq => ?_⟩
 rcases h1.2 with (h2 | h2) | h2
 ·exact .inl h2
 ·rw [hq] at h2; cases h2
 ·refine .inr fun i p hp hpq => ?_
  rw [List.all_eq_true] at h2
  have hi : i < ops.size := by
   rcases Nat.lt_or_ge i ops.size with h' | h'
   ·exact h'
   ·rw [Array.getElem?_eq_none h'] at hp; cases hp
  have h3 := h2 i (List.mem_range.2 hi)
  rw [hp] at h3
  simp only [Bool.or_eq_true] at h3
  rcases h3 with h3 | h3
  ·rw [hpq] at h3; cases h3
  ·refine ⟨fun hlt => ?_, fun hlt => ?_⟩
   ·rw [if_pos hlt] at h3; exact h3
   ·rw [if_neg (by omega)] at h3; exact h3
theorem V9 {bef : Array Nat} (hcalm : Ue C ops bef = true) {l : List Oper} {φ φ' : Fr} {σ σ' : St} (h : RunV C callG nt ops l φ σ φ' σ') : ∀ {j : Nat} {past : List (Nat × St)} {pend : List (Nat × Fr × Oper × A)}, ops.toList.drop j = l →
  (∀ e ∈ past, e.1 < j ∧ ∃ p, ops[e.1]? = some p ∧ isQuiet C p = false) → (∀ e ∈ pend, e.1 < j ∧ ops[e.1]? = some e.2.2.1 ∧ isQuiet C e.2.2.1 = true) → B9 C callG nt ops bef l j φ σ past pend = some (.normal, φ', σ') := by
 have next : ∀ {o : Oper} {l : List Oper} {j : Nat}, ops.toList.drop j = o :: l → ops[j]? = some o ∧ ops.toList.drop (j + 1) = l := by
  intro o l j h
  refine ⟨?_, ?_⟩
  ·rw [← Array.getElem?_toList, ← List.head?_drop, h]; rfl
  ·rw [← List.drop_drop, h]; rfl
 induction h with
 | nil => intro j past pend _ _ _; rfl
 | @yes o l φ φ1 φ' σ σ1 σ' a hw hv hp _ ih =>
  intro j past pend hl hpast hpend
  obtain ⟨hj, hl'⟩ := next hl
  obtain ⟨hsl, hcq⟩ := Te hcalm hj
  have up1 : ∀ e ∈ past, e.1 < j + 1 ∧ ∃ p, ops[e.1]? = some p ∧ isQuiet C p = false := fun e he => ⟨Nat.lt_succ_of_lt (hpast e he).1, (hpast e he).2⟩
  have up2 : ∀ e ∈ pend, e.1 < j + 1 ∧ ops[e.1]? = some e.2.2.1 ∧ isQuiet C e.2.2.1 = true := fun e he => ⟨Nat.lt_succ_of_lt (hpend e he).1, (hpend e he).2⟩
  cases hq : isQuiet C o with
  | true =>
   have hval : op C (ev C φ) o σ = some (.val a σ1) := by
    rcases hv with hv | ⟨hv, _⟩ | ⟨f, args, σ2, hv, _⟩
    ·exact hv
    ·obtain ⟨_, _, e⟩ := Na hv hq; cases e
    ·obtain ⟨_, _, e⟩ := Na hv hq; cases e
   obtain ⟨h1, rfl⟩ := Ada hval hq hsl
   have hst : Da C bef φ o j a past = true := by
    unfold Da
    rw [List.all_eq_true]
    intro e he
    rw [Bool.or_eq_true]
    rcases hcq hq with hn | hn
    ·exact .inr (by unfold sameA; rw [L8 hn (by assumption)]; rfl)
    ·obtain ⟨hlt, p, hp1, hp2⟩ := hpast e he
     exact .inl ((hn _ _ hp1 hp2).1 hlt)
   simp only [B9, hw, hq, if_true, h1, hst, hp]
   exact ih hl' up1 (fun e he => by
    rcases List.mem_cons.1 he with rfl | he
    ·exact ⟨Nat.lt_succ_self j, hj, hq⟩
    ·exact up2 e he)
  | false =>
   have hloud : A5 C callG φ o σ = some (a, σ1) := by
    unfold A5
    rcases hv with hv | ⟨hv, rfl⟩ | ⟨f, args, σ2, hv, hv2⟩
    ·simp only [hv]
    ·simp only [hv]
    ·simp only [hv, hv2]
   have hst : Dz C bef j σ1 pend = true := by
    unfold Dz
    rw [List.all_eq_true]
    intro e he
    rw [Bool.or_eq_true]
    obtain ⟨hlt, he1, he2⟩ := hpend e he
    rcases (Te hcalm he1).2 he2 with hn | hn
    ·exact .inr (by unfold sameA; rw [L8 hn (by assumption)]; rfl)
    ·exact .inl ((hn _ _ hj hq).2 hlt)
   simp only [B9, hw, hq, Bool.false_eq_true, if_false, hloud, hst, if_true, hp]
   exact ih hl' (fun e he => by
    rcases List.mem_cons.1 he with rfl | he
    ·exact ⟨Nat.lt_succ_self j, o, hj, hq⟩
    ·exact up1 e he) up2
 | @no o l φ φ1 φ' σ σ' hw hp _ ih =>
  intro j past pend hl hpast hpend
  obtain ⟨hj, hl'⟩ := next hl
  simp only [B9, hw, hp]
  exact ih hl' (fun e he => ⟨Nat.lt_succ_of_lt (hpast e he).1, (hpast e he).2⟩) (fun e he => ⟨Nat.lt_succ_of_lt (hpend e he).1, (hpend e he).2⟩)
theorem Sa (hd : C9 C ops (Region.before ops) = true) (hcalm : Ue C ops (Region.before ops) = true) {φ φ' : Fr} {σ σ' : St} (h : RunV C callG nt ops ops.toList φ σ φ' σ') : Db C callG nt ops φ σ = some (.normal, φ', σ') := by
 unfold Db
 rw [if_pos hd]
 exact V9 hcalm h rfl (by simp) (by simp)
end
end Go.DM.FM
namespace Go.DM.FM
open Go
theorem Wa {ψ : FF} {t : Nat} {a : A} (h : R3 ψ t = some a) : t < 255 ∧ Ch ψ t = a ∧ a ≠ .junk := by
 unfold R3 at h
 cases hb : Nat.ble (Nat.succ t) 255 with
 | false => rw [hb] at h; cases h
 | true =>
  rw [hb] at h
  have h : (if Nt (Ch ψ t) = true then none else some (Ch ψ t)) = some a := h
  split at h
  ·cases h
  ·rename_i hj
   cases h
   refine ⟨Nat.le_of_ble_eq_true hb, rfl, fun c => hj ?_⟩
   rw [c]; rfl
theorem L9 {live : Nat} {φ : Fr} {ψ : FF} (hF : FrI live φ ψ) {t : Nat} {a : A} (h : R3 ψ t = some a) : φ.s.get t = some a := by
 obtain ⟨h1, h2, h3⟩ := Wa h
 subst h2
 exact hF.val t h1 h3
theorem Xw {live : Nat} {φ : Fr} {ψ : FF} (hF : FrI live φ ψ) (L : List Nat) : (Xj ψ L).le φ := by
 refine ⟨fun t x h => ?_, hF.ds.symm⟩
 unfold Xj at h
 simp only at h
 induction L with
 | nil => simp at h
 | cons u L ih =>
  rw [List.foldr_cons] at h
  cases hg : R3 ψ u with
  | none => rw [hg] at h; exact ih h
  | some a =>
   rw [hg] at h
   simp only [Tr.get_set] at h
   by_cases e : t = u
   ·subst e; rw [if_pos rfl] at h; cases h; exact L9 hF hg
   ·rw [if_neg e] at h; exact ih h
theorem Tf (s : Nat → A) : ∀ (L : List Nat) (ψ : FF) (t : Nat), t < 256 → (∀ u ∈ L, u < 256) → Ch (L.foldl (fun φ t => setF (slt t) (s t) φ) ψ) t = if t ∈ L then s t else Ch ψ t
 | [], ψ, t, _, _ => by simp
 | u :: L, ψ, t, ht, hL => by
  rw [List.foldl_cons, Tf s L _ t ht (fun v hv => hL v (List.mem_cons_of_mem _ hv))]
  by_cases h1 : t ∈ L
  ·rw [if_pos h1, if_pos (List.mem_cons_of_mem _ h1)]
  ·rw [if_neg h1]
   by_cases h2 : t = u
   ·subst h2; rw [El, if_pos (by simp)]
   ·rw [Em ψ (hL u (by simp)) ht h2, if_neg (by simp [h1, h2])]
theorem Nb : Om = slt 255 := rfl
theorem Wb (l : List (FuncId × List A)) (ψ : FF) : H5 (S4 l ψ) = l := by
 unfold H5
 rw [Kp]
 unfold S4
 rw [Nb, El]
 cases l with
 | nil => rfl
 | cons x l =>
  show ((x :: l).map fun x => A.fn (.func x.1) x.2 []).filterMap _ = x :: l
  rw [List.filterMap_map]
  exact List.filterMap_some
theorem Tg {live : Nat} {ψ : FF} {φ ψ' φ' : Fr} (hF : FrI live φ ψ) (h : ψ'.le φ') : FrI live φ' (S5 ψ' ((List.range 255).filter live.testBit) ψ) := by
 have hL : ∀ u ∈ (List.range 255).filter live.testBit, u < 256 := fun u hu => by
  have := List.mem_range.1 (List.mem_filter.1 hu).1; omega
 have hs : ∀ t, t < 255 → Ch (S5 ψ' ((List.range 255).filter live.testBit) ψ) t = if live.testBit t = true then (ψ'.s.get t).getD .junk else Ch ψ t := by
  intro t ht
  unfold S5 S4
  rw [Nb, Em _ (by omega) (by omega) (by omega), Tf (fun t => (ψ'.s.get t).getD .junk) _ _ _ (by omega) hL]
  by_cases hl : live.testBit t = true
  ·rw [if_pos hl, if_pos (List.mem_filter.2 ⟨List.mem_range.2 ht, hl⟩)]
  ·rw [if_neg hl, if_neg (fun c => hl (List.mem_filter.1 c).2)]
 refine ⟨fun t ht hj => ?_, fun t ht hl => ?_, ?_⟩
 ·rw [hs t ht] at hj ⊢
  split at hj
  ·rename_i hl
   rw [if_pos hl]
   cases hg : ψ'.s.get t with
   | none => rw [hg] at hj; exact absurd rfl hj
   | some a => exact h.1 t a hg
  ·rename_i hl
   exact absurd (hF.dead t ht (by simpa using hl)) hj
 ·rw [hs t ht, if_neg (by rw [hl]; simp)]
  exact hF.dead t ht hl
 ·rw [h.2]
  exact Wb _ _
theorem Xx {C : Cfg} {callF callG : CallF} (hc : callF.le callG) {live n : Nat} {d : Bool} {ops : Array Oper} {φ : Fr} {ψ ψ' : FF} {σ σ' : St} {x : X} (hF : FrI live φ ψ) (h : S6 C callF d n ops ((List.range 255).filter live.testBit) ψ σ = some (x, ψ', σ')) :
  ∃ φ', (if d then Db C callG n ops φ σ else Aw C callG n ops ops.toList φ σ) = some (x, φ', σ') ∧ FrI live φ' ψ' := by
 unfold S6 Ab1 at h
 have hle := Xw hF ((List.range 255).filter live.testBit)
 split at h
 case h_2 => cases h
 rename_i y ψ1 σ1 h1
 cases h
 cases d with
 | true =>
  simp only [if_true] at h1 ⊢
  obtain ⟨φ', g1, g2⟩ := Ix hc hle h1
  exact ⟨φ', g1, Tg hF g2⟩
 | false =>
  simp only [Bool.false_eq_true, if_false] at h1 ⊢
  obtain ⟨φ', g1, g2⟩ := Bt hc hle h1
  exact ⟨φ', g1, Tg hF g2⟩
end Go.DM.FM
namespace Go.DM.FM
open Go
section
variable {C : Cfg} {callF callG : CallF} {nt live fast : Nat}
theorem AlI.nil {φ : Fr} : AlI [] [] φ := by intro t e h; simp at h
theorem Uj {x : A} {a b : RX} {r : X × FF × St} (h : Vo x a b = some r) : ∃ t, x = .v (.bool t) ∧ (if t then a else b) = some r := by
 cases x with
 | v u =>
  cases u with
  | bool t => exact ⟨t, rfl, by cases t <;> exact h⟩
  | _ => cases h
 | _ => cases h
theorem H7 {r : RX} {K : FF → St → RX} {x : X} {ψ : FF} {σ : St} (h : Gz r K = some (x, ψ, σ)) : (∃ ψ1 σ1, r = some (.normal, ψ1, σ1) ∧ K ψ1 σ1 = some (x, ψ, σ)) ∨ (x ≠ .normal ∧ r = some (x, ψ, σ)) := by
 unfold Gz at h
 split at h
 ·rename_i ψ1 σ1; exact .inl ⟨ψ1, σ1, rfl, h⟩
 ·rename_i hne
  exact .inr ⟨fun e => hne ψ σ (by rw [h, e]), h⟩
theorem Gb (hc : callF.le callG) (hnt : nt ≤ 255) : ∀ (k : Nat) {c : Code} {φ : Fr} {ψ ψ' : FF} {σ σ' : St} {x : X}, regsOk C fast c = true → FrI live φ ψ → H6 C callF k (comp C nt live fast c) ψ σ = some (x, ψ', σ') → ∃ φ', A3 C callG nt k c φ σ = some (x, φ', σ') ∧ FrI live φ' ψ'
 | 0, c, φ, ψ, ψ', σ, σ', x, hq, hF, h => by cases h
 | k + 1, c, φ, ψ, ψ', σ, σ', x, hq, hF, h => by
  have ih := @Gb hc hnt k
  cases c with
  | skip => cases h; exact ⟨φ, rfl, hF⟩
  | exit id => cases h; exact ⟨φ, rfl, hF⟩
  | ret => cases h; exact ⟨φ, rfl, hF⟩
  | region id ops d =>
   simp only [comp] at h
   simp only [regsOk] at hq
   cases hf : tb fast id with
   | false =>
    rw [hf] at h
    simp only [cond_false] at h
    obtain ⟨φ', h1, h2⟩ := Xx (callG := callG) hc hF (h : S6 C callF d nt ops ((List.range 255).filter live.testBit) ψ σ = _)
    refine ⟨φ', ?_, h2⟩
    cases d with
    | true => simp only [A3]; simpa using h1
    | false => simp only [A3]; simpa using h1
   | true =>
    rw [hf] at h hq
    simp only [cond_true] at h hq
    cases d with
    | false =>
     simp only [cond_false] at h
     have h : H4 C callF (cL C live nt ops ops.toList [] ([] : List A).length) [] ψ σ = some (x, ψ', σ') := h
     simp only [A3]
     rcases Ox hc hnt _ hF AlI.nil h with ⟨rfl, φ', h1, h2⟩ | ⟨v, φ', rfl, h1, h2⟩
     ·exact ⟨φ', h1.run, h2⟩
     ·exact ⟨φ', h1, h2⟩
    | true =>
     simp only [cond_true] at h
     have h : Ab2 (H4 C callF (cL C live nt ops ops.toList [] ([] : List A).length) [] ψ σ) = some (x, ψ', σ') := h
     unfold Qa at hq
     simp only [Bool.and_eq_true, Bool.not_true, Bool.false_or] at hq
     simp only [A3]
     cases hr : H4 C callF (cL C live nt ops ops.toList [] ([] : List A).length) [] ψ σ with
     | none => rw [hr] at h; cases h
     | some r =>
      obtain ⟨y, ψ1, σ1⟩ := r
      rcases Ox hc hnt _ hF AlI.nil hr with ⟨rfl, φ', h1, h2⟩ | ⟨v, φ', rfl, h1, h2⟩
      ·rw [hr] at h
       cases h
       exact ⟨φ', Sa hq.2.1 hq.2.2 h1, h2⟩
      ·rw [hr] at h; cases h
  | seq a b =>
   simp only [regsOk, Bool.and_eq_true] at hq
   have h : Gz (H6 C callF k (comp C nt live fast a) ψ σ) (H6 C callF k (comp C nt live fast b)) = some (x, ψ', σ') := h
   simp only [A3]
   rcases H7 h with ⟨ψ1, σ1, h1, h2⟩ | ⟨hne, h1⟩
   ·obtain ⟨φ1, g1, g2⟩ := ih hq.1 hF h1
    rw [g1]
    exact ih hq.2 g2 h2
   ·obtain ⟨φ1, g1, g2⟩ := ih hq.1 hF h1
    rw [g1]
    refine ⟨φ1, ?_, g2⟩
    cases x with
    | normal => exact absurd rfl hne
    | _ => rfl
  | cond y a b =>
   simp only [regsOk, Bool.and_eq_true] at hq
   have h : Vo (get (Gm C [] ([] : List A).length y) [] ψ) (H6 C callF k (comp C nt live fast a) ψ σ) (H6 C callF k (comp C nt live fast b) ψ σ) = some (x, ψ', σ') := h
   obtain ⟨t, h1, h2⟩ := Uj h
   have he := Td (C := C) hF AlI.nil y (by rw [h1]; simp)
   rw [h1] at he
   simp only [A3, he]
   cases t with
   | true => exact ih hq.1 hF h2
   | false => exact ih hq.2 hF h2
  | block id a =>
   simp only [regsOk] at hq
   have h : Vu (H6 C callF k (comp C nt live fast a) ψ σ) id = some (x, ψ', σ') := h
   simp only [A3]
   cases hr : H6 C callF k (comp C nt live fast a) ψ σ with
   | none => rw [hr] at h; cases h
   | some r =>
    obtain ⟨y, ψ1, σ1⟩ := r
    obtain ⟨φ1, g1, g2⟩ := ih hq hF hr
    rw [hr] at h
    rw [g1]
    cases y with
    | exit j =>
     have h : cond (Nat.beq j id) (some (X.normal, ψ1, σ1)) (some (.exit j, ψ1, σ1)) = some (x, ψ', σ') := h
     simp only
     by_cases hj : j = id
     ·rw [if_pos hj]
      rw [hj, Nat.beq_refl] at h
      cases h
      exact ⟨φ1, rfl, g2⟩
     ·rw [if_neg hj]
      rw [show Nat.beq j id = false from by
       cases hb : Nat.beq j id with
       | false => rfl
       | true => exact absurd (Nat.eq_of_beq_eq_true hb) hj] at h
      cases h
      exact ⟨φ1, rfl, g2⟩
    | _ => cases h; exact ⟨φ1, rfl, g2⟩
  | loop a =>
   have hq2 := hq
   simp only [regsOk] at hq
   have h : Gz (H6 C callF k (comp C nt live fast a) ψ σ) (H6 C callF k (comp C nt live fast (.loop a))) = some (x, ψ', σ') := h
   simp only [A3]
   rcases H7 h with ⟨ψ1, σ1, h1, h2⟩ | ⟨hne, h1⟩
   ·obtain ⟨φ1, g1, g2⟩ := ih hq hF h1
    rw [g1]
    exact ih hq2 g2 h2
   ·obtain ⟨φ1, g1, g2⟩ := ih hq hF h1
    rw [g1]
    refine ⟨φ1, ?_, g2⟩
    cases x with
    | normal => exact absurd rfl hne
    | _ => rfl
  | _ => cases h
end
end Go.DM.FM
namespace Go.DM.FM
open Go
theorem I4 (t : Nat) : Ch ff0 t = .junk := by
 have : ∀ i j : D16, P5 j (Lr i ff0) = .junk := by intro i j; cases i <;> cases j <;> rfl
 exact this _ _
theorem Nc : ∀ (l : List A) (n : Nat) (ψ : FF) (t : Nat), t < 256 → n + l.length ≤ 255 → Ch (setArgs n l ψ) t = if n ≤ t ∧ t < n + l.length then (l[t - n]?).getD .junk else Ch ψ t
 | [], n, ψ, t, _, _ => by rw [if_neg (by simp only [List.length_nil]; omega)]; rfl
 | a :: l, n, ψ, t, ht, hn => by
  simp only [List.length_cons] at hn ⊢
  rw [show setArgs n (a :: l) ψ = setArgs (n + 1) l (setF (slt n) a ψ) from rfl, Nc l (n + 1) _ t ht (by omega)]
  by_cases h1 : t = n
  ·subst h1
   rw [if_neg (by omega), if_pos (by omega), El]; simp
  ·rw [Em ψ (by omega) ht h1]
   by_cases h2 : n + 1 ≤ t ∧ t < n + 1 + l.length
   ·rw [if_pos h2, if_pos (by omega), show t - n = (t - (n + 1)) + 1 by omega, List.getElem?_cons_succ]
   ·rw [if_neg h2, if_neg (by omega)]
theorem Oy {n t : Nat} (h : t < n) : (lowBits n).testBit t = true := by
 have : lowBits n = 2 ^ n - 1 := by
  show 1 <<< n - 1 = _
  rw [Nat.one_shiftLeft]
 rw [this, Nat.testBit_two_pow_sub_one, decide_eq_true h]
theorem Qi {args : List A} {np live : Nat} (hlen : args.length ≤ np) (hnp : np ≤ 255) (hl : ∀ t, t < np → live.testBit t = true) : FrI live ⟨E6 0 args, []⟩ (setArgs 0 args ff0) := by
 have hs := fun t (ht : t < 256) => Nc args 0 ff0 t ht (by omega)
 refine ⟨fun t ht hj => ?_, fun t ht hd => ?_, ?_⟩
 ·rw [hs t (by omega)] at hj ⊢
  rw [Jl, if_pos (Nat.zero_le _)]
  split at hj
  ·rename_i h1
   rw [if_pos h1]
   have : t - 0 < args.length := by omega
   rw [List.getElem?_eq_getElem this]; rfl
  ·exact absurd (I4 t) hj
 ·rw [hs t (by omega), if_neg, I4]
  intro c
  rw [hl t (by omega)] at hd; cases hd
 ·unfold H5
  rw [Kp, hs 255 (by omega), if_neg (by omega), I4]
theorem Kr {C : Cfg} {live : Nat} {φ : Fr} {ψ : FF} (hF : FrI live φ ψ) {σ : St} : ∀ {rs : List ResultVar} {l : List A}, Oo C ψ σ rs = some l → B0 C φ σ rs = some l
 | [], l, h => h
 | .tmp t :: r, l, h => by
  unfold Oo at h
  split at h
  ·rename_i a l' h1 h2
   cases h
   simp only [B0, L9 hF h1, Kr hF h2]
  ·cases h
 | .cell a t :: r, l, h => by
  unfold Oo at h
  split at h
  ·rename_i p h1
   split at h
   ·rename_i x l' h2 h3
    cases h
    simp only [B0, L9 hF h1, h2, Kr hF h3]
   ·cases h
  ·cases h
def OrcOk (C : Cfg) (Q : Orc) : Prop := ∀ f l m fn c, Q f = some (l, m) → C.P.funcs[f]? = some fn → fn.body = some c → regsOk C m c = true
theorem Qj : ∀ {l : List (Nat × Nat × Nat)} {f : Nat} {x : Nat × Nat}, orcL l f = some x → ∃ e ∈ l, e.1 = f ∧ e.2 = x
 | [], f, x, h => by cases h
 | e :: l, f, x, h => by
  have h : cond (Nat.beq e.1 f) (some e.2) (orcL l f) = some x := h
  cases hb : Nat.beq e.1 f with
  | true => rw [hb] at h; cases h; exact ⟨e, by simp, Nat.eq_of_beq_eq_true hb, rfl⟩
  | false =>
   rw [hb] at h
   obtain ⟨e', h1, h2⟩ := Qj (l := l) h
   exact ⟨e', List.mem_cons_of_mem _ h1, h2⟩
theorem orc_ok {C : Cfg} {l : List (Nat × Nat × Nat)} (h : orcChk C l = true) : OrcOk C (orcL l) := by
 intro f a m fn c hq hf hb
 obtain ⟨e, h1, h2, h3⟩ := Qj hq
 unfold orcChk at h
 rw [List.all_eq_true] at h
 have := h e h1
 rw [h2, hf, h3] at this
 simp only [hb] at this
 exact this
theorem fcall1_ok {C : Cfg} {Q : Orc} (hQ : OrcOk C Q) {callF callG : CallF} (ih : callF.le callG) (k : Nat) : CallF.le (fcall1 C Q callF k) (M3 C callG k) := by
  intro f args σ r h
  have h : (match C.prim f with
   | some g => match g args σ with
    | some (x, σ') => some (.ret x, σ')
    | none => none
   | none => match Vx C Q f with
    | some ⟨c, rs, np⟩ => cond (Nat.ble args.length np) (match H6 C callF (k + 1) c (setArgs 0 args ff0) σ with
      | some (.normal, φ, σ') | some (.ret, φ, σ') => match Bx C callF (k + 1) (H5 φ) σ' none with
       | some (σ'', none) => R4 C φ σ'' rs
       | _ => none
      | some (.pan x, φ, σ') => match Bx C callF (k + 1) (H5 φ) σ' (some x) with
       | some (σ'', none) => R4 C φ σ'' rs
       | some (σ'', some y) => some (.pan y, σ'')
       | none => none
      | _ => none) none
    | none => none) = some r := h
  simp only [M3]
  split at h
  ·rename_i g hg
   rw [hg]; exact h
  ·rename_i hg
   rw [hg]
   simp only
   split at h
   case h_2 => cases h
   rename_i c rs np hb
   unfold Vx at hb
   split at hb
   case h_2 => cases hb
   rename_i lv fast fn hq hfn
   rw [hfn]
   simp only
   split at hb
   case h_2 => cases hb
   rename_i cd hbody
   rw [hbody]
   simp only
   split at hb
   ·cases hb
   rename_i hsz
   cases hb
   have hreg := hQ _ _ _ _ _ hq hfn hbody
   cases hble : Nat.ble args.length (fn.params.size + fn.nfree) with
   | false => rw [hble] at h; cases h
   | true =>
    have hlen := Nat.le_of_ble_eq_true hble
    rw [hble, cond_true] at h
    have hnt : fn.ntmps ≤ 255 := by omega
    have hF := Qi (live := lv ||| lowBits (fn.params.size + fn.nfree)) hlen (by omega) (fun t ht => by rw [Nat.testBit_or, Oy ht, Bool.or_true])
    rw [if_pos (by omega)]
    have ret : ∀ {ψ1 : FF} {σ1 : St} {φ1 : Fr}, FrI (lv ||| lowBits (fn.params.size + fn.nfree)) φ1 ψ1 → R4 C ψ1 σ1 fn.results.toList = some r →
      (match B0 C φ1 σ1 fn.results.toList with
       | some l => some (Out.ret (An l), σ1)
       | none => none) = some r := by
     intro ψ1 σ1 φ1 h1 h2
     unfold R4 at h2
     split at h2
     ·rename_i l hl
      rw [Kr h1 hl]; exact h2
     ·cases h2
    have fin : ∀ {ψ1 : FF} {σ1 : St} {φ1 : Fr}, FrI (lv ||| lowBits (fn.params.size + fn.nfree)) φ1 ψ1 → (match Bx C callF (k + 1) (H5 ψ1) σ1 none with
       | some (σ'', none) => R4 C ψ1 σ'' fn.results.toList
       | _ => none) = some r → (match Bx C callG (k + 1) φ1.ds σ1 none with
       | some (σ'', none) => match B0 C φ1 σ'' fn.results.toList with
        | some l => some (Out.ret (An l), σ'')
        | none => none
       | _ => none) = some r := by
     intro ψ1 σ1 φ1 h1 h2
     rw [← h1.ds]
     split at h2
     ·rename_i σ2 hl
      rw [C1 ih (Nat.le_refl _) hl]
      exact ret h1 h2
     ·cases h2
    split at h
    ·rename_i ψ1 σ1 hr
     obtain ⟨φ1, g1, g2⟩ := Gb ih hnt _ hreg hF hr
     rw [g1]; exact fin g2 h
    ·rename_i ψ1 σ1 hr
     obtain ⟨φ1, g1, g2⟩ := Gb ih hnt _ hreg hF hr
     rw [g1]; exact fin g2 h
    ·rename_i v ψ1 σ1 hr
     obtain ⟨φ1, g1, g2⟩ := Gb ih hnt _ hreg hF hr
     rw [g1]
     simp only
     rw [← g2.ds]
     split at h
     ·rename_i σ2 hl
      rw [C1 ih (Nat.le_refl _) hl]
      exact ret g2 h
     ·rename_i σ2 y hl
      rw [C1 ih (Nat.le_refl _) hl]
      exact h
     ·cases h
    ·cases h
theorem Sb {C : Cfg} {k : Nat} : call C (k + 1) = M3 C (call C k) k := by
 funext f args σ
 simp only [call, M3]
 rfl
theorem fcall_ok {C : Cfg} {Q : Orc} (hQ : OrcOk C Q) : ∀ k, CallF.le (fcall C Q k) (call C k)
 | 0 => by intro f args σ r h; cases h
 | k + 1 => by
  rw [Sb]
  exact fcall1_ok hQ (fcall_ok hQ k) k
end Go.DM.FM
namespace Go.DM.FM
open Go
noncomputable section
def mkF (l : List (Nat × A)) : FF := List.rec (motive := fun _ => FF) ff0 (fun e _ ih => setF (slt e.1) e.2 ih) l
def gcF (keep : List Nat) (ψ : FF) : FF := mkF (keep.map fun t => (t, Ch ψ t))
def mkB (l : List (Nat × Option Blk)) : Tr Blk := List.rec (motive := fun _ => Tr Blk) .nil (fun e _ ih => Ht e.2 (Nat.succ e.1) ih e.1) l
def mkK (l : List (Nat × Option TypeId)) : Tr TypeId := List.rec (motive := fun _ => Tr TypeId) .nil (fun e _ ih => Tr.setF (Nat.succ e.1) ih e.1 e.2) l
def gcS (kb kt : List Nat) (σ : St) : St := ⟨mkB (kb.map fun b => (b, Ke σ.blks b)), σ.next, mkK (kt.map fun i => (i, σ.toks.get i)), σ.nextT⟩
def Ma (l : List Nat) : Bool := l.all fun t => Nat.blt t 256
theorem Qk (s : Nat → A) : ∀ (l : List Nat), Ma l = true → ∀ t, t < 256 → Ch (mkF (l.map fun t => (t, s t))) t = if t ∈ l then s t else .junk
 | [], _, t, _ => by rw [if_neg (by simp)]; exact I4 t
 | u :: l, hl, t, ht => by
  simp only [Ma, List.all_cons, Bool.and_eq_true] at hl
  have hu : u < 256 := R7 hl.1
  show Ch (setF (slt u) (s u) (mkF (l.map fun t => (t, s t)))) t = _
  by_cases h2 : t = u
  ·subst h2; rw [El, if_pos (by simp)]
  ·rw [Em _ hu ht h2, Qk s l hl.2 t ht]
   by_cases h1 : t ∈ l
   ·rw [if_pos h1, if_pos (List.mem_cons_of_mem _ h1)]
   ·rw [if_neg h1, if_neg (by simp [h1, h2])]
theorem Sc {live : Nat} {φ : Fr} {ψ : FF} (h : FrI live φ ψ) {keep : List Nat} (hk : Ma (255 :: keep) = true) : FrI live φ (gcF (255 :: keep) ψ) := by
 have hs := fun t ht => Qk (Ch ψ) (255 :: keep) hk t ht
 refine ⟨fun t ht hj => ?_, fun t ht hd => ?_, ?_⟩
 ·unfold gcF at hj ⊢
  rw [hs t (by omega)] at hj ⊢
  split at hj
  ·rename_i hm; rw [if_pos hm]; exact h.val t ht hj
  ·exact absurd rfl hj
 ·unfold gcF
  rw [hs t (by omega)]
  split
  ·exact h.dead t ht hd
  ·rfl
 ·rw [← h.ds]
  exact L7 (by unfold gcF; rw [hs 255 (by omega), if_pos (by simp)])
theorem Th (g : Nat → Option Blk) : ∀ (l : List Nat) (b : Nat) (x : Blk), (mkB (l.map fun b => (b, g b))).get b = some x → g b = some x
 | [], b, x, h => by simp [mkB] at h
 | u :: l, b, x, h => by
  have h : (Ht (g u) (Nat.succ u) (mkB (l.map fun b => (b, g b))) u).get b = some x := h
  rw [G0] at h
  by_cases e : b = u
  ·subst e; rw [Tr.get_setF_same _ _ _ _ (Nat.lt_succ_self _)] at h; exact h
  ·rw [Tr.get_setF_ne _ _ _ _ _ (Nat.lt_succ_self _) e] at h; exact Th g l b x h
theorem Ti (g : Nat → Option TypeId) : ∀ (l : List Nat) (b : Nat) (x : TypeId), (mkK (l.map fun b => (b, g b))).get b = some x → g b = some x
 | [], b, x, h => by simp [mkK] at h
 | u :: l, b, x, h => by
  have h : (Tr.setF (Nat.succ u) (mkK (l.map fun b => (b, g b))) u (g u)).get b = some x := h
  by_cases e : b = u
  ·subst e; rw [Tr.get_setF_same _ _ _ _ (Nat.lt_succ_self _)] at h; exact h
  ·rw [Tr.get_setF_ne _ _ _ _ _ (Nat.lt_succ_self _) e] at h; exact Ti g l b x h
theorem Sd (kb kt : List Nat) (σ : St) : Gc σ (gcS kb kt σ) :=
 ⟨rfl, rfl, fun b x h => by have := Th (fun b => Ke σ.blks b) kb b x h; rwa [Lx] at this, fun i e h => Ti (fun i => σ.toks.get i) kt i e h⟩
def pc (C : Cfg) (callF : CallF) (k : Nat) (c : FC) (keep kb kt : List Nat) (ψ : FF) (σ : St) : RX := match H6 C callF k c ψ σ with
 | some (x, ψ1, σ1) => some (x, gcF (255 :: keep) ψ1, gcS kb kt σ1)
 | none => none
def rds (C : Cfg) (callF : CallF) (k : Nat) (c : FC) (m : Nat) : FF → St → RX := Nat.rec (motive := fun _ => FF → St → RX) (fun ψ σ => some (.normal, ψ, σ)) (fun _ ih ψ σ => Gz (H6 C callF k c ψ σ) ih) m
def ck (C : Cfg) (callF : CallF) (k : Nat) (c : FC) (m : Nat) (keep kb kt : List Nat) (ψ : FF) (σ : St) : Option (FF × St) := match rds C callF k c m ψ σ with
 | some (.normal, ψ1, σ1) => some (gcF (255 :: keep) ψ1, gcS kb kt σ1)
 | _ => none
def Run (C : Cfg) (callG : CallF) (nt live : Nat) (c : Code) (ψ : FF) (σ : St) (x : X) (ψ1 : FF) (σ1 : St) : Prop := ∀ φ, FrI live φ ψ → ∃ φ' σ', ExG C callG nt c φ σ (x, φ', σ') ∧ FrI live φ' ψ1 ∧ Gc σ' σ1
def Kh (C : Cfg) (callG : CallF) (nt live : Nat) (a : Code) (ψ : FF) (σ : St) (x : X) (ψ1 : FF) (σ1 : St) : Prop := ∀ φ, FrI live φ ψ → ∃ m φ' σ', ExL C callG nt a m φ σ (x, φ', σ') ∧ FrI live φ' ψ1 ∧ Gc σ' σ1
section
variable {C : Cfg} {callF callG : CallF} {nt live fast : Nat} {a b : Code} {ψ ψ1 ψ2 : FF} {σ σ1 σ2 : St} {x : X}
theorem Wc {k : Nat} {c : FC} {keep kb kt : List Nat} (h : pc C callF k c keep kb kt ψ σ = some (x, ψ1, σ1)) : ∃ ψ' σ', H6 C callF k c ψ σ = some (x, ψ', σ') ∧ ψ1 = gcF (255 :: keep) ψ' ∧ σ1 = gcS kb kt σ' := by
 unfold pc at h
 split at h
 ·rename_i y ψ' σ' hr; cases h; exact ⟨ψ', σ', hr, rfl, rfl⟩
 ·cases h
theorem run_pc (hc : callF.le callG) (hnt : nt ≤ 255) (hq : regsOk C fast a = true) {k : Nat} {keep kb kt : List Nat} (hk : Ma (255 :: keep) = true) (h : pc C callF k (comp C nt live fast a) keep kb kt ψ σ = some (x, ψ1, σ1)) : Run C callG nt live a ψ σ x ψ1 σ1 := by
 intro φ hF
 obtain ⟨ψ', σ', h1, rfl, rfl⟩ := Wc h
 obtain ⟨φ', g1, g2⟩ := Gb hc hnt k hq hF h1
 exact ⟨φ', σ', .of g1, Sc g2 hk, Sd kb kt σ'⟩
theorem Ae9 (hc : callF.le callG) (hnt : nt ≤ 255) (hq : regsOk C fast a = true) {k : Nat} {keep kb kt : List Nat} (hk : Ma (255 :: keep) = true) (h : pc C callF k (comp C nt live fast (.loop a)) keep kb kt ψ σ = some (x, ψ1, σ1)) : Kh C callG nt live a ψ σ x ψ1 σ1 := by
 intro φ hF
 obtain ⟨ψ', σ', h1, rfl, rfl⟩ := Wc h
 obtain ⟨φ', g1, g2⟩ := Gb hc hnt k (c := .loop a) hq hF h1
 exact ⟨k, φ', σ', .of g1, Sc g2 hk, Sd kb kt σ'⟩
theorem Xy (h : Run C callG nt live a ψ σ .normal ψ1 σ1) (g : Run C callG nt live b ψ1 σ1 x ψ2 σ2) : Run C callG nt live (.seq a b) ψ σ x ψ2 σ2 := by
 intro φ hF
 obtain ⟨φ1, σ1', h1, h2, h3⟩ := h φ hF
 obtain ⟨φ2, σ2', g1, g2, g3⟩ := g φ1 h2
 exact ⟨φ2, σ2', .seq h1 (.gc h3 g1), g2, g3⟩
theorem Se {id : Nat} (h : Run C callG nt live a ψ σ (.exit id) ψ1 σ1) : Run C callG nt live (.block id a) ψ σ .normal ψ1 σ1 := by
 intro φ hF
 obtain ⟨φ1, σ1', h1, h2, h3⟩ := h φ hF
 exact ⟨φ1, σ1', .blockX h1, h2, h3⟩
theorem Sf {id : Nat} (hx : x ≠ .exit id) (h : Run C callG nt live a ψ σ x ψ1 σ1) : Run C callG nt live (.block id a) ψ σ x ψ1 σ1 := by
 intro φ hF
 obtain ⟨φ1, σ1', h1, h2, h3⟩ := h φ hF
 exact ⟨φ1, σ1', .blockN hx h1, h2, h3⟩
theorem Wd (h : Kh C callG nt live a ψ σ x ψ1 σ1) : Run C callG nt live (.loop a) ψ σ x ψ1 σ1 := by
 intro φ hF
 obtain ⟨m, φ1, σ1', h1, h2, h3⟩ := h φ hF
 exact ⟨φ1, σ1', .loop h1, h2, h3⟩
theorem We (hc : callF.le callG) (hnt : nt ≤ 255) (hq : regsOk C fast a = true) {k : Nat} : ∀ (m : Nat) {φ : Fr} {ψ ψ2 : FF} {σ σ2 : St}, FrI live φ ψ → rds C callF k (comp C nt live fast a) m ψ σ = some (.normal, ψ2, σ2) →
  ∃ φ2, FrI live φ2 ψ2 ∧ ∀ {mm : Nat} {r : X × Fr × St}, ExL C callG nt a mm φ2 σ2 r → ∃ mm', ExL C callG nt a mm' φ σ r
 | 0, φ, ψ, ψ2, σ, σ2, hF, h => by cases h; exact ⟨φ, hF, fun h => ⟨_, h⟩⟩
 | m + 1, φ, ψ, ψ2, σ, σ2, hF, h => by
  have h : Gz (H6 C callF k (comp C nt live fast a) ψ σ) (rds C callF k (comp C nt live fast a) m) = some (.normal, ψ2, σ2) := h
  rcases H7 h with ⟨ψ1, σ1, h1, h2⟩ | ⟨hx, _⟩
  ·obtain ⟨φ1, g1, g2⟩ := Gb hc hnt k hq hF h1
   obtain ⟨φ2, e1, e2⟩ := We hc hnt hq m g2 h2
   exact ⟨φ2, e1, fun h => by obtain ⟨mm, h⟩ := e2 h; exact ⟨mm + 1, .next g1 h⟩⟩
  ·exact absurd rfl hx
theorem lp_ck (hc : callF.le callG) (hnt : nt ≤ 255) (hq : regsOk C fast a = true) {k m : Nat} {keep kb kt : List Nat} (hk : Ma (255 :: keep) = true) (h : ck C callF k (comp C nt live fast a) m keep kb kt ψ σ = some (ψ1, σ1)) (g : Kh C callG nt live a ψ1 σ1 x ψ2 σ2) : Kh C callG nt live a ψ σ x ψ2 σ2 := by
 intro φ hF
 unfold ck at h
 split at h
 ·rename_i ψ' σ' hr
  cases h
  obtain ⟨φ1, e1, e2⟩ := We hc hnt hq m hF hr
  obtain ⟨mm, φ2, σ2', g1, g2, g3⟩ := g φ1 (Sc e1 hk)
  obtain ⟨mm', h'⟩ := e2 (.gc (Sd kb kt σ') g1)
  exact ⟨mm', φ2, σ2', h', g2, g3⟩
 ·cases h
theorem lp_run (h : Run C callG nt live a ψ σ .normal ψ1 σ1) (g : Kh C callG nt live a ψ1 σ1 x ψ2 σ2) : Kh C callG nt live a ψ σ x ψ2 σ2 := by
 intro φ hF
 obtain ⟨φ1, σ1', h1, h2, h3⟩ := h φ hF
 obtain ⟨m, φ2, σ2', g1, g2, g3⟩ := g φ1 h2
 exact ⟨m + 1, φ2, σ2', .nextS (fun _ hd hc _ _ hI hg hr Q hQ => h1.good hd hc hI hg hr Q hQ) (.gc h3 g1), g2, g3⟩
theorem Uk {P : Program} {t : TypeId} {p x : A} {σ σ1 : St} (g : Gc σ σ1) (h : Ci P t p σ1 = some x) : Ci P t p σ = some x := by
 unfold Ci at h ⊢
 cases p with
 | ptr b o =>
  simp only at h ⊢
  unfold St.cells at h ⊢
  cases hb : σ1.blks.get b with
  | none => rw [hb] at h; cases h
  | some y => rw [hb] at h; rw [g.blk _ _ hb]; exact h
 | _ => exact h
theorem Oz {φ : Fr} {σ σ1 : St} (g : Gc σ σ1) : ∀ {rs : List ResultVar} {l : List A}, B0 C φ σ1 rs = some l → B0 C φ σ rs = some l
 | [], l, h => h
 | .tmp t :: r, l, h => by
  simp only [B0] at h ⊢
  split at h
  ·rename_i a l' h1 h2
   rw [h1, Oz g h2]; exact h
  ·cases h
 | .cell a t :: r, l, h => by
  simp only [B0] at h ⊢
  split at h
  ·split at h
   ·rename_i x l' h2 h3
    rw [Uk g h2, Oz g h3]; exact h
   ·cases h
  ·cases h
theorem Sg {w0 : World} (hd : Io C w0) (hcg : Bi C w0 callG) {f : FuncId} {fn : Func} (hf : C.P.funcs[f]? = some fn) (hb : fn.body = some a) {args : List A} (hl : args.length ≤ fn.ntmps) (hnt : fn.ntmps ≤ 255)
  (hlive : (List.range args.length).all (fun t => live.testBit t) = true) (h : Run C callG fn.ntmps live a (setArgs 0 args ff0) σ x ψ1 σ1) (hx : x = .normal ∨ x = .ret) (hds : H5 ψ1 = []) {l : List A} (hres : Oo C ψ1 σ1 fn.results.toList = some l) : CallPt C w0 f args σ (.ret (An l)) σ1 := by
 have hF : FrI live ⟨E6 0 args, []⟩ (setArgs 0 args ff0) := Qi (np := args.length) (Nat.le_refl _) (by omega) (fun t ht => by rw [List.all_eq_true] at hlive; exact hlive t (List.mem_range.2 ht))
 obtain ⟨φ', σ', h1, h2, h3⟩ := h _ hF
 have hr := Oz h3 (Kr h2 hres)
 exact (Uc hd hcg hf hb hl h1 hx (by rw [← h2.ds]; exact hds) hr).gc h3
theorem callT_le {T : CallFact} (h : callF.le callG) : CallF.le (callT T callF) (callT T callG) := by
 intro f args σ r hr
 unfold callT at hr ⊢
 cases hb : Nat.beq f T.f && (beqs args T.args && stB σ T.σ) with
 | false => rw [hb] at hr; exact h _ _ _ _ hr
 | true => rw [hb] at hr; exact hr
end
end
end Go.DM.FM
namespace Go.DM.FM
open Go
noncomputable section
def unB (k n : Nat) : List UInt8 := Nat.rec (motive := fun _ => Nat → List UInt8) (fun _ => []) (fun _ ih n => UInt8.ofNat (Nat.land n 255) :: ih (Nat.shiftRight n 8)) k n
def i (n : Int) : A := .v (.int .i64 n)
def unT (k n : Nat) (t : List UInt8) : List UInt8 := Nat.rec (motive := fun _ => Nat → List UInt8) (fun _ => t) (fun _ ih n => UInt8.ofNat (Nat.land n 255) :: ih (Nat.shiftRight n 8)) k n
def wT (l : List Nat) (n k : Nat) : A := .v (.string ⟨⟨List.rec (motive := fun _ => List UInt8) (unB k n) (fun n _ ih => unT 32 n ih) l⟩⟩)
def wS (n k : Nat) : Value := .string ⟨⟨unB k n⟩⟩
def w (n k : Nat) : A := .v (wS n k)
def w0 : A := .v (.string ⟨⟨[]⟩⟩)
def nS : A := .v (.slice none 0 0)
def sl (c : Code) : Code := match c with | .seq a _ => a | c => c
def sr (c : Code) : Code := match c with | .seq _ b => b | c => c
def bk (c : Code) : Code := match c with | .block _ a => a | c => c
def lp (c : Code) : Code := match c with | .loop a => a | c => c
def codeOf (C : Cfg) (f : FuncId) : Code := match C.P.funcs[f]? with
 | some fn => fn.body.getD .skip
 | none => .skip
def Afa : Code → Bool
 | .seq _ _ => true
 | _ => false
def Tj (id : Nat) : Code → Bool
 | .block j _ => Nat.beq j id
 | _ => false
def Wf : Code → Bool
 | .loop _ => true
 | _ => false
section
variable {C : Cfg} {callF callG : CallF} {nt live fast : Nat} {c : Code} {ψ ψ1 ψ2 : FF} {σ σ1 σ2 : St} {x : X}
theorem regs_sl (h : regsOk C fast c = true) : regsOk C fast (sl c) = true := by
 cases c with
 | seq a b => simp only [regsOk, Bool.and_eq_true] at h; exact h.1
 | _ => exact h
theorem regs_sr (h : regsOk C fast c = true) : regsOk C fast (sr c) = true := by
 cases c with
 | seq a b => simp only [regsOk, Bool.and_eq_true] at h; exact h.2
 | _ => exact h
theorem regs_bk (h : regsOk C fast c = true) : regsOk C fast (bk c) = true := by
 cases c with
 | block id a => simp only [regsOk] at h; exact h
 | _ => exact h
theorem regs_lp (h : regsOk C fast c = true) : regsOk C fast (lp c) = true := by
 cases c with
 | loop a => simp only [regsOk] at h; exact h
 | _ => exact h
theorem rseq (e : Afa c = true) (h : Run C callG nt live (sl c) ψ σ .normal ψ1 σ1) (g : Run C callG nt live (sr c) ψ1 σ1 x ψ2 σ2) : Run C callG nt live c ψ σ x ψ2 σ2 := by
 cases c with
 | seq a b => exact Xy h g
 | _ => cases e
theorem rblockX {id : Nat} (e : Tj id c = true) (h : Run C callG nt live (bk c) ψ σ (.exit id) ψ1 σ1) : Run C callG nt live c ψ σ .normal ψ1 σ1 := by
 cases c with
 | block j a =>
  have := Nat.eq_of_beq_eq_true e
  subst this
  exact Se h
 | _ => cases e
theorem rblockN {id : Nat} (e : Tj id c = true) (hx : x ≠ .exit id) (h : Run C callG nt live (bk c) ψ σ x ψ1 σ1) : Run C callG nt live c ψ σ x ψ1 σ1 := by
 cases c with
 | block j a =>
  have := Nat.eq_of_beq_eq_true e
  subst this
  exact Sf hx h
 | _ => cases e
theorem rloop (e : Wf c = true) (h : Kh C callG nt live (lp c) ψ σ x ψ1 σ1) : Run C callG nt live c ψ σ x ψ1 σ1 := by
 cases c with
 | loop a => exact Wd h
 | _ => cases e
theorem rlpc (e : Wf c = true) (hc : callF.le callG) (hnt : nt ≤ 255) (hq : regsOk C fast c = true) {k : Nat} {keep kb kt : List Nat} (hk : Ma (255 :: keep) = true) (h : pc C callF k (comp C nt live fast c) keep kb kt ψ σ = some (x, ψ1, σ1)) : Kh C callG nt live (lp c) ψ σ x ψ1 σ1 := by
 cases c with
 | loop a => exact Ae9 hc hnt (by simp only [regsOk] at hq; exact hq) hk h
 | _ => cases e
theorem callPt_run2 {C : Cfg} {callG : CallF} {nt live : Nat} {c : Code} {ψ1 : FF} {σ σ1 : St} {x : X} {w0 : World} (hd : Io C w0) (hcg : Bi C w0 callG) {f : FuncId} {fn : Func} (hf : C.P.funcs[f]? = some fn) (hb : fn.body = some c) (hn : fn.ntmps = nt) (hnt : nt ≤ 255) {args : List A} (hl : args.length ≤ nt)
  (hlive : (List.range args.length).all (fun t => live.testBit t) = true) (h : Run C callG nt live c (setArgs 0 args ff0) σ x ψ1 σ1) (hx : x = .normal ∨ x = .ret) (hds : H5 ψ1 = []) {rs : List ResultVar} (hrs : fn.results.toList = rs) {v : A} (hres : (Oo C ψ1 σ1 rs).map An = some v) : CallPt C w0 f args σ (.ret v) σ1 := by
 subst hn
 subst hrs
 cases hr : Oo C ψ1 σ1 fn.results.toList with
 | none => rw [hr] at hres; cases hres
 | some l =>
  rw [hr] at hres
  have e : An l = v := Option.some.inj hres
  rw [← e]
  exact Sg hd hcg hf hb hl hnt hlive h hx hds hr
theorem regs_P {C C' : Cfg} (h : C'.P = C.P) (hm : C'.mutB = C.mutB) {fast : Nat} : ∀ c : Code, regsOk C' fast c = regsOk C fast c := by
 have hs : ∀ o, F9 C' o = F9 C o := fun o => by unfold F9; rw [h]
 have hq : ∀ o, isQuiet C' o = isQuiet C o := fun o => by unfold isQuiet; rw [hm]
 have he : ∀ ops bef j, Dy C' ops bef j = Dy C ops bef j := fun ops bef j => by unfold Dy; simp only [hq]
 have hd : ∀ ops bef, C9 C' ops bef = C9 C ops bef := fun ops bef => by unfold C9; simp only [hq, he]
 intro c
 induction c with
 | region i ops d =>
  simp only [regsOk]
  have : Qa C' ops d = Qa C ops d := by
   unfold Qa Ue
   simp only [hs, hq, hd]
  rw [this]
 | seq a b iha ihb => simp only [regsOk, iha, ihb]
 | cond x a b iha ihb => simp only [regsOk, iha, ihb]
 | block id a ih => simp only [regsOk, ih]
 | loop a ih => simp only [regsOk, ih]
 | _ => rfl
theorem OrcOk.add {C : Cfg} {Q : Orc} (h : OrcOk C Q) (f : FuncId) (l : List A) (x : A) : OrcOk (C.add f l x) Q := by
 intro g a m fn c h1 h2 h3
 rw [regs_P (C := C) (C' := C.add f l x) rfl rfl]
 exact h g a m fn c h1 h2 h3
def retX (r : Option (Out × St)) : Option A := match r with
 | some (.ret x, _) => some x
 | _ => none
theorem retX_inv {r : Option (Out × St)} {x : A} (h : retX r = some x) : ∃ σ1, r = some (.ret x, σ1) := by
 unfold retX at h
 split at h
 ·cases h; exact ⟨_, rfl⟩
 ·cases h
end
end
end Go.DM.FM
namespace Go.DM.FM
open Go Go.RowKit
noncomputable section
section
variable {C : Cfg} {w0 : World} {callF callG : CallF}
theorem calls_pt {f : FuncId} {σ' : St} (_hm : C.P.follows .mixedOrders = true) (hg : GlobOk C (Lk w0)) (h : CallPt C w0 f [] σ0 (.ret (.v (.bool true))) σ') : Calls C.P f #[] w0 fun e w' => e = .returned (.bool true) ∧ Below w0.heap.size w0 w' := by
 refine (h (Lk w0) [] (Ub w0) hg (RelL.nil _)).mono (fun e w' he => ?_)
 obtain ⟨k', v, h1, h2, h3, h4, h5⟩ := he
 have := rel_v_inv h5
 subst this
 subst h2
 exact ⟨h1, h4.below⟩
end
end
end Go.DM.FM
