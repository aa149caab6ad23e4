/- Short names for data. No condition. -/
import Derived.Test.YthcnipopdbgpdaaGreatDoorFmC
import Derived.Test.YthcnipopdbgpdaaGreatDoorCfgT
namespace Go.DM
open Go Go.Proofs
def Cfg.or (C D : Cfg) : Cfg := { C with prim := fun h => match C.prim h with
  | none => D.prim h
  | some g => some (fun args σ => match g args σ with
    | some r => some r
    | none => match D.prim h with
      | some g' => g' args σ
      | none => none) }
theorem PrimsOk.or {C D : Cfg} {G : World → Prop} (hP : D.P = C.P) (hg : D.glob = C.glob) (h1 : PrimsOk C G) (h2 : PrimsOk D G) : PrimsOk (C.or D) G := by
  obtain ⟨P, gl, pr, mu⟩ := C
  obtain ⟨P', gl', pr', mu'⟩ := D
  cases hP; cases hg
  intro w hw f g args σ σ' y k us hf hgr hI hgl hr
  have hf : (match pr f with
    | none => pr' f
    | some g => some (fun args σ => match g args σ with
      | some r => some r
      | none => match pr' f with
        | some g' => g' args σ
        | none => none)) = some g := hf
  cases h : pr f with
  | none =>
    rw [h] at hf
    exact h2 w hw f g args σ σ' y k us hf hgr hI hgl hr
  | some g1 =>
    rw [h] at hf
    cases hf
    cases h3 : g1 args σ with
    | some r =>
      simp only [h3] at hgr
      cases hgr
      exact h1 w hw f g1 args σ σ' y k us h h3 hI hgl hr
    | none =>
      cases h4 : pr' f with
      | none => simp only [h3, h4] at hgr; cases hgr
      | some g2 =>
        simp only [h3, h4] at hgr
        exact h2 w hw f g2 args σ σ' y k us h4 hgr hI hgl hr
end Go.DM
namespace Go.DM.FM
open Go Go.Proofs
set_option maxRecDepth 100000
noncomputable section
def strB (x : A) (t : List UInt8) : List UInt8 := match x with
  | .v (.string s) => List.rec (motive := fun _ => List UInt8) t (fun b _ ih => b :: ih) s.data.toList
  | _ => t
def digB (n : Nat) (t : List UInt8) : List UInt8 := Nat.rec (motive := fun _ => Nat → List UInt8 → List UInt8) (fun _ t => t) (fun _ ih n t => bif Nat.blt n 10 then UInt8.ofNat (Nat.add 48 n) :: t else ih (Nat.div n 10) (UInt8.ofNat (Nat.add 48 (Nat.mod n 10)) :: t)) 20 n t
def numB (x : A) (t : List UInt8) : List UInt8 := match x with
  | .v (.int _ (.ofNat n)) => digB n t
  | .v (.int _ (.negSucc n)) => 45 :: digB (Nat.succ n) t
  | _ => t
def itB (k : Nat) : List A → List UInt8 → List UInt8 := Nat.rec (motive := fun _ => List A → List UInt8 → List UInt8) (fun _ t => t) (fun _ ih l t => match l with
  | .v (.int _ (.ofNat c)) :: x :: y :: z :: r =>
    let t := match r with
      | [] => t
      | _ => 32 :: ih r t
    match c with
    | 1 => strB x t
    | 2 => numB y t
    | 3 => 34 :: strB x (34 :: t)
    | _ => match z with
      | .sl _ q _ => 40 :: ih q (41 :: t)
      | _ => 40 :: 41 :: t
  | _ => t) k
def txB (k : Nat) (l : List A) : List UInt8 := Nat.rec (motive := fun _ => List A → List UInt8) (fun _ => []) (fun _ ih l => match l with
  | _ :: _ :: _ :: z :: r => (match z with
    | .sl _ q _ => 40 :: itB 300 q (41 :: 10 :: ih r)
    | _ => 40 :: 41 :: 10 :: ih r)
  | _ => []) k l
def txT (x : A) : A := match x with
  | .sl _ l _ => .v (.string ⟨⟨txB 1000 l⟩⟩)
  | _ => x
def o : A := i 0
def u : A := i 1
namespace D
abbrev LB := List (Nat × Option Blk)
def J (l : List (List A → List A)) : List A := @List.rec (List A → List A) (fun _ => List A) [] (fun f _ ih => f ih) l
def H (l : List (LB → LB)) : LB := @List.rec (LB → LB) (fun _ => LB) [] (fun f _ ih => f ih) l
def c (a : A) : List A → List A := List.cons a
def e (a : Nat × Option Blk) : LB → LB := List.cons a
def pp (b : Nat) : A := .ptr b 0
def q (n : Int) : A := .v (.int .u64 n)
def y (n : Int) : A := .v (.int .u8 n)
def mx (b l : Nat) : A := .ms b 0 l 9223372036854775809
def cb (b : Nat) (l : List A) (e : TypeId) : Nat × Option Blk := (b, some (.cells l e))
def nd (n : Nat) (x : Int) (a b : Nat) : Nat × Option Blk := cb n [i x, .ptr a 0, .ptr b 0, nS] 160
def k (x : A) (l : List A) : List A := u :: x :: o :: nS :: l
def m (x : A) (l : List A) : List A := i 2 :: w0 :: x :: nS :: l
def n (a : List A) (g : Nat) (l : List A) : List A := i 4 :: w0 :: o :: .sl 4 a (.gr g) :: l
abbrev Z := List A
abbrev Y := Z → Z
abbrev LC := LB → LB
end D
def shO (d : Nat) (b : Option Blk) : Option Blk := match b with | some (.cells cs t) => some (.cells (shL d cs) t) | x => x
def shB (d : Nat) (l : List (Nat × Option Blk)) : List (Nat × Option Blk) := List.rec [] (fun e _ ih => bif Nat.beq e.1 0 then ih else (Nat.add e.1 d, shO d e.2) :: ih) l
def shN (d : Nat) (l : List Nat) : List Nat := List.rec [] (fun e _ ih => bif Nat.beq e 0 then ih else Nat.add e d :: ih) l
end
end Go.DM.FM
