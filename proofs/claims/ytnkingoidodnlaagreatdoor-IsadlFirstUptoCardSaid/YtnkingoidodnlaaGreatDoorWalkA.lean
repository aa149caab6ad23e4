/- Typed functions of a layer's functions. No condition. -/
import Derived.Test.YtnkingoidodnlaaGreatDoorRuleU
import Derived.Test.YtnkingoidodnlaaGreatDoorCfgT
namespace Go.DM
open Go Go.Proofs
set_option maxRecDepth 100000
set_option maxHeartbeats 40000000
structure Fz where
 f_Name : ByteArray
 f_Count : Int
 f_Width : Int
 f_Zero : Int
 deriving DecidableEq

def rTFile : RepT Fz := ⟨4, fun x c => c = [.v (.string x.f_Name), .v (.int .i64 x.f_Count), .v (.int .i64 x.f_Width), .v (.int .i64 x.f_Zero)], by rintro x c rfl; rfl, by decide, by rintro x c rfl; simp [Cx]⟩

structure Dt where
 f_Name : ByteArray
 f_File : Int
 f_Num : Int
 deriving DecidableEq

def rTAlias : RepT Dt := ⟨3, fun x c => c = [.v (.string x.f_Name), .v (.int .i64 x.f_File), .v (.int .i64 x.f_Num)], by rintro x c rfl; rfl, by decide, by rintro x c rfl; simp [Cx]⟩

structure Ee where
 f_Name : ByteArray
 f_Kind : Int
 f_File : Int
 f_Bits : Int
 f_Shift : Int
 f_Plus : Int
 f_Except : (List Int)
 deriving DecidableEq

def rTClass : RepT Ee := ⟨7, fun x c => ∃ (a : A), c = [.v (.string x.f_Name), .v (.int .i64 x.f_Kind), .v (.int .i64 x.f_File), .v (.int .i64 x.f_Bits), .v (.int .i64 x.f_Shift), .v (.int .i64 x.f_Plus), a] ∧ Sl (rI .i64) a x.f_Except, by rintro x c ⟨a, rfl, _⟩; rfl, by decide, by rintro x c ⟨a, rfl, b⟩; simp [Cx, b.isOne]⟩

structure Da where
 f_Name : ByteArray
 f_Class : Int
 deriving DecidableEq

def rTArg : RepT Da := ⟨2, fun x c => c = [.v (.string x.f_Name), .v (.int .i64 x.f_Class)], by rintro x c rfl; rfl, by decide, by rintro x c rfl; simp [Cx]⟩

structure B5 where
 f_Lit : ByteArray
 f_Arg : Int
 f_Hi : Int
 f_Lo : Int
 deriving DecidableEq

def Hm : RepT B5 := ⟨4, fun x c => c = [.v (.string x.f_Lit), .v (.int .i64 x.f_Arg), .v (.int .i64 x.f_Hi), .v (.int .i64 x.f_Lo)], by rintro x c rfl; rfl, by decide, by rintro x c rfl; simp [Cx]⟩

inductive Ao where
 | mk (f_Op : Int) (f_W : Int) (f_A : Int) (f_B : Int) (f_Kids : (List Ao))

def Ao.f_Op : Ao → Int | .mk x _ _ _ _ => x

def Ao.f_W : Ao → Int | .mk _ x _ _ _ => x

def Ao.f_A : Ao → Int | .mk _ _ x _ _ => x

def Ao.f_B : Ao → Int | .mk _ _ _ x _ => x

def Ao.f_Kids : Ao → (List Ao) | .mk _ _ _ _ x => x

def rTTermD : Nat → RepT Ao
 | 0 => ⟨5, fun _ _ => False, by intro x c h; exact h.elim, by decide, by intro x c h; exact h.elim⟩
 | d + 1 => ⟨5, fun x c => ∃ (a : A), c = [.v (.int .i64 x.f_Op), .v (.int .i64 x.f_W), .v (.int .i64 x.f_A), .v (.int .i64 x.f_B), a] ∧ Sl (rTTermD d) a x.f_Kids, by rintro x c ⟨a, rfl, _⟩; rfl, by decide, by rintro x c ⟨a, rfl, b⟩; simp [Cx, b.isOne]⟩

theorem rTTermD_sz : ∀ d, (rTTermD d).sz = 5
 | 0 => rfl
 | _ + 1 => rfl

theorem rTTermD_up : ∀ d x c, (rTTermD d).rep x c → (rTTermD (d + 1)).rep x c
 | 0, _, _, h => h.elim
 | d + 1, _, _, ⟨a, h, b⟩ => ⟨a, h, b.mono ((rTTermD_sz _).trans (rTTermD_sz _).symm) (rTTermD_up d)⟩

def Cm : RepT Ao := ⟨5, fun x c => ∃ d, (rTTermD d).rep x c, by rintro x c ⟨d, h⟩; exact ((rTTermD d).len _ _ h).trans (rTTermD_sz d), by decide, by rintro x c ⟨d, h⟩; exact (rTTermD d).one _ _ h⟩

theorem rTTerm_of {x : Ao} {c : List A} : (∃ (a : A), c = [.v (.int .i64 x.f_Op), .v (.int .i64 x.f_W), .v (.int .i64 x.f_A), .v (.int .i64 x.f_B), a] ∧ Sl Cm a x.f_Kids) → Cm.rep x c := by
 rintro ⟨a, h, b⟩
 obtain ⟨e, b⟩ := b.sup (rD := rTTermD) (fun d => (rTTermD_sz d).symm) rTTermD_up (fun _ _ h => h)
 exact ⟨e + 1, a, h, b⟩

theorem rTTerm_un {x : Ao} {c : List A} : Cm.rep x c → ∃ (a : A), c = [.v (.int .i64 x.f_Op), .v (.int .i64 x.f_W), .v (.int .i64 x.f_A), .v (.int .i64 x.f_B), a] ∧ Sl Cm a x.f_Kids := by
 rintro ⟨d, h⟩
 cases d with
 | zero => exact h.elim
 | succ d =>
  obtain ⟨a, h, b⟩ := h
  exact ⟨a, h, b.mono (rTTermD_sz d) (fun _ _ h => ⟨d, h⟩)⟩

structure F0 where
 f_Name : ByteArray
 f_Syntax : ByteArray
 f_Args : (List Da)
 f_Pieces : (List B5)
 f_Sem : (List Ao)

def rTForm : RepT F0 := ⟨5, fun x c => ∃ (a b d : A), c = [.v (.string x.f_Name), .v (.string x.f_Syntax), a, b, d] ∧ Sl rTArg a x.f_Args ∧ Sl Hm b x.f_Pieces ∧ Sl Cm d x.f_Sem, by rintro x c ⟨a, b, d, rfl, _, _, _⟩; rfl, by decide, by rintro x c ⟨a, b, d, rfl, e, f, g⟩; simp [Cx, e.isOne, f.isOne, g.isOne]⟩

structure Eq where
 f_Name : ByteArray
 f_Num : Int
 f_Kind : Int
 f_Bytes : Int
 f_Class : Int
 f_Class2 : Int
 f_Calc : Ao
 f_Sign : Int
 f_Width : Int
 f_Align : Int
 f_Round : Int
 f_Hi : Int
 f_Lo : Int

def rTRel : RepT Eq := ⟨17, fun x c => ∃ (a : A), c = [.v (.string x.f_Name), .v (.int .i64 x.f_Num), .v (.int .i64 x.f_Kind), .v (.int .i64 x.f_Bytes), .v (.int .i64 x.f_Class), .v (.int .i64 x.f_Class2), .v (.int .i64 x.f_Calc.f_Op), .v (.int .i64 x.f_Calc.f_W), .v (.int .i64 x.f_Calc.f_A), .v (.int .i64 x.f_Calc.f_B), a, .v (.int .i64 x.f_Sign), .v (.int .i64 x.f_Width), .v (.int .i64 x.f_Align), .v (.int .i64 x.f_Round), .v (.int .i64 x.f_Hi), .v (.int .i64 x.f_Lo)] ∧ Sl Cm a x.f_Calc.f_Kids, by rintro x c ⟨a, rfl, _⟩; rfl, by decide, by rintro x c ⟨a, rfl, b⟩; simp [Cx, b.isOne]⟩

structure TUse where
 f_Mod : ByteArray
 f_Class : Int
 f_Rel : Int
 f_End : Bool
 deriving DecidableEq

def rTUse : RepT TUse := ⟨4, fun x c => c = [.v (.string x.f_Mod), .v (.int .i64 x.f_Class), .v (.int .i64 x.f_Rel), .v (.bool x.f_End)], by rintro x c rfl; rfl, by decide, by rintro x c rfl; simp [Cx]⟩

structure Id where
 f_Rel : Int
 f_Form : Int
 f_To : Int
 deriving DecidableEq

def rTRelaxed : RepT Id := ⟨3, fun x c => c = [.v (.int .i64 x.f_Rel), .v (.int .i64 x.f_Form), .v (.int .i64 x.f_To)], by rintro x c rfl; rfl, by decide, by rintro x c rfl; simp [Cx]⟩

structure TMacro where
 f_Syntax : ByteArray
 f_Rel : Int
 f_Lines : (List ByteArray)
 deriving DecidableEq

def rTMacro : RepT TMacro := ⟨3, fun x c => ∃ (a : A), c = [.v (.string x.f_Syntax), .v (.int .i64 x.f_Rel), a] ∧ Sl rS a x.f_Lines, by rintro x c ⟨a, rfl, _⟩; rfl, by decide, by rintro x c ⟨a, rfl, b⟩; simp [Cx, b.isOne]⟩

structure Fx where
 f_Name : ByteArray
 f_Num : Int
 deriving DecidableEq

def rTNamed : RepT Fx := ⟨2, fun x c => c = [.v (.string x.f_Name), .v (.int .i64 x.f_Num)], by rintro x c rfl; rfl, by decide, by rintro x c rfl; simp [Cx]⟩

inductive Ae where
 | mk (f_Kind : Int) (f_Word : ByteArray) (f_Num : Int) (f_Kids : (List Ae))

def Ae.f_Kind : Ae → Int | .mk x _ _ _ => x

def Ae.f_Word : Ae → ByteArray | .mk _ x _ _ => x

def Ae.f_Num : Ae → Int | .mk _ _ x _ => x

def Ae.f_Kids : Ae → (List Ae) | .mk _ _ _ x => x

def rTTreeD : Nat → RepT Ae
 | 0 => ⟨4, fun _ _ => False, by intro x c h; exact h.elim, by decide, by intro x c h; exact h.elim⟩
 | d + 1 => ⟨4, fun x c => ∃ (a : A), c = [.v (.int .i64 x.f_Kind), .v (.string x.f_Word), .v (.int .i64 x.f_Num), a] ∧ Sl (rTTreeD d) a x.f_Kids, by rintro x c ⟨a, rfl, _⟩; rfl, by decide, by rintro x c ⟨a, rfl, b⟩; simp [Cx, b.isOne]⟩

theorem rTTreeD_sz : ∀ d, (rTTreeD d).sz = 4
 | 0 => rfl
 | _ + 1 => rfl

theorem rTTreeD_up : ∀ d x c, (rTTreeD d).rep x c → (rTTreeD (d + 1)).rep x c
 | 0, _, _, h => h.elim
 | d + 1, _, _, ⟨a, h, b⟩ => ⟨a, h, b.mono ((rTTreeD_sz _).trans (rTTreeD_sz _).symm) (rTTreeD_up d)⟩

def A0 : RepT Ae := ⟨4, fun x c => ∃ d, (rTTreeD d).rep x c, by rintro x c ⟨d, h⟩; exact ((rTTreeD d).len _ _ h).trans (rTTreeD_sz d), by decide, by rintro x c ⟨d, h⟩; exact (rTTreeD d).one _ _ h⟩

theorem rTTree_of {x : Ae} {c : List A} : (∃ (a : A), c = [.v (.int .i64 x.f_Kind), .v (.string x.f_Word), .v (.int .i64 x.f_Num), a] ∧ Sl A0 a x.f_Kids) → A0.rep x c := by
 rintro ⟨a, h, b⟩
 obtain ⟨e, b⟩ := b.sup (rD := rTTreeD) (fun d => (rTTreeD_sz d).symm) rTTreeD_up (fun _ _ h => h)
 exact ⟨e + 1, a, h, b⟩

theorem rTTree_un {x : Ae} {c : List A} : A0.rep x c → ∃ (a : A), c = [.v (.int .i64 x.f_Kind), .v (.string x.f_Word), .v (.int .i64 x.f_Num), a] ∧ Sl A0 a x.f_Kids := by
 rintro ⟨d, h⟩
 cases d with
 | zero => exact h.elim
 | succ d =>
  obtain ⟨a, h, b⟩ := h
  exact ⟨a, h, b.mono (rTTreeD_sz d) (fun _ _ h => ⟨d, h⟩)⟩

structure A3 where
 f_at : Int
 f_e : Int
 deriving DecidableEq

structure H2 where
 f_Name : ByteArray
 f_Order : Int
 f_Files : (List Fz)
 f_Aliases : (List Dt)
 f_Flags : (List ByteArray)
 f_Classes : (List Ee)
 f_Forms : (List F0)
 f_Rels : (List Eq)
 f_Uses : (List TUse)
 f_Relaxes : (List Id)
 f_Macros : (List TMacro)
 f_Nums : (List Fx)
 f_Regs : (List Dt)

structure TRd where
 f_Desc : H2

def E2 (m : A) (x : TRd) (c : List A) : Prop := ∃ (b d e f g h i j k l a : A), c = [.v (.string x.f_Desc.f_Name), .v (.int .i64 x.f_Desc.f_Order), b, d, e, f, g, h, i, j, k, l, a, m] ∧ Sl rTFile b x.f_Desc.f_Files ∧ Sl rTAlias d x.f_Desc.f_Aliases ∧ Sl rS e x.f_Desc.f_Flags ∧ Sl rTClass f x.f_Desc.f_Classes ∧ Sl rTForm g x.f_Desc.f_Forms ∧ Sl rTRel h x.f_Desc.f_Rels ∧ Sl rTUse i x.f_Desc.f_Uses ∧ Sl rTRelaxed j x.f_Desc.f_Relaxes ∧ Sl rTMacro k x.f_Desc.f_Macros ∧ Sl rTNamed l x.f_Desc.f_Nums ∧ Sl rTAlias a x.f_Desc.f_Regs

def gTDesc (b : Nat) (c : List A) (R : List Res) : List Res := .blk b (.cells c 38) :: ap c 2 72 :: ap c 3 74 :: ap c 4 9 :: ap c 5 78 :: ap c 6 50 :: ap c 7 82 :: ap c 8 119 :: ap c 9 123 :: ap c 10 115 :: ap c 11 127 :: ap c 12 74 :: R

def C0 (b : Nat) (c : List A) (R : List Res) : List Res := .blk b (.cells c 62) :: ap c 2 72 :: ap c 3 74 :: ap c 4 9 :: ap c 5 78 :: ap c 6 50 :: ap c 7 82 :: ap c 8 119 :: ap c 9 123 :: ap c 10 115 :: ap c 11 127 :: ap c 12 74 :: R

structure Tisadl_cursor where
 f_rest : (List Ae)

def gTRel (b : Nat) (c : List A) (R : List Res) : List Res := .blk b (.cells c 82) :: ap c 10 52 :: R

def Ck (N : Nat) (a : ByteArray) : Nat → Int → Option (LR Int Int)
 | 0, _ => none
 | m + 1, b => ((some (decide (b < ((a.size : Nat) : Int))) : Option (Bool)).bind fun e => (cond e (((((atS a b).bind fun f => some f) : Option (Int)).bind fun c => (cond ((c == 32) || (c == 10)) (Ck N a m (IntKind.wrap .i64 (b + 1))) ((cond (c == 59) (((((subS a b ((a.size : Nat) : Int)).bind fun g => ((indexByteT g 10).bind fun h => some h)) : Option (Int)).bind fun d => (((cond (decide (d < 0)) (((some (IntKind.wrap .i64 (((a.size : Nat) : Int) - b)) : Option (Int)).bind fun i => some i)) (some d)) : Option (Int)).bind fun j => Ck N a m (IntKind.wrap .i64 (b + j))))) (some (.ret b))))))) (some (.out b))))

def G7 (n : Nat) (a : ByteArray) (b : Int) (e : Int) : Option (Int) := ((Ck n a n b).bind fun v => match v with | .out c => some c | .ret d => some d)

def Kn (c : Nat) (a : ByteArray) (b : Int) (R : List Res) (r : Int) (x : A) (s : St) : Prop := x = (.tup []) ∧ Hp s (.blk c (.cells [(vS a), (vI r), (vI b)] 57) :: R)

def Il (n : Nat) (a : Int) : Option ((PR Unit A3)) := some (.pan (A3.mk a 31))

def gsexp_wrong_post (R : List Res) (r : (PR Unit A3)) : Out → St → Prop := match r with | .val r => OutV (fun x s => x = (.tup []) ∧ Hp s R) | .pan p => OutP (.ifc 54 (.agg [(vI p.f_at), (vI p.f_e)])) R

def H7 (n : Nat) (d : ByteArray) (b : Int) (a : Int) (e : Int) : Option ((PR Int A3)) := (((cond ((decide ((IntKind.wrap .i64 (a + 1)) > 65536)) || (decide (e > 32))) (some (.ret (.pan (A3.mk b 33)))) (some (.out ()))) : Option (LR Unit (PR Int A3))).bind fun v => match v with | .out _ => some (.val (IntKind.wrap .i64 (a + 1))) | .ret c => some c)

def J4 (c : Nat) (a : ByteArray) (b : Int) (R : List Res) (r : (PR Int A3)) : Out → St → Prop := match r with | .val r => OutV (fun x s => x = (.tup []) ∧ Hp s (.blk c (.cells [(vS a), (vI b), (vI r)] 57) :: R)) | .pan p => OutP (.ifc 54 (.agg [(vI p.f_at), (vI p.f_e)])) R

def Cc (N : Nat) (b : ByteArray) (d : Int) : Nat → Int → Option (LR Unit (PR (Ae × Int) A3))
 | 0, _ => none
 | m + 1, a => (cond (decide (a < ((b.size : Nat) : Int))) (((((atS b a).bind fun c => (cond (c == 34) (((((subS b (IntKind.wrap .i64 (d + 1)) a).bind fun e => some e) : Option (ByteArray)).bind fun f => some (.ret (.val ((Ae.mk 3 f 0 ([] : List Ae)), (IntKind.wrap .i64 (a + 1))))))) ((cond (c == 10) (some (.ex ())) ((cond ((decide (c < 32)) || (decide (c > 126))) (((Il N a).bind fun v => match v with | .val _ => some (.out ()) | .pan g => some (.ret (.pan g)))) (some (.out ())))))))) : Option (LX Unit Unit (PR (Ae × Int) A3))).bind fun v => match v with | .out _ => Cc N b d m (IntKind.wrap .i64 (a + 1)) | .ex _ => some (.out ()) | .ret h => some (.ret h))) (some (.out ())))

def E9 (n : Nat) (b : ByteArray) (a : Int) (e : Int) : Option ((PR (Ae × Int) A3)) := ((Cc n b a n (IntKind.wrap .i64 (a + 1))).bind fun v => match v with | .out _ => ((Il n a).bind fun v => match v with | .val _ => some (.val ((Ae.mk 0 (ByteArray.mk #[]) 0 ([] : List Ae)), a)) | .pan c => some (.pan c)) | .ret d => some d)

def Hv (d : Nat) (a : ByteArray) (b : Int) (R : List Res) (r : (PR (Ae × Int) A3)) : Out → St → Prop := match r with | .val r => OutV (fun x s => ∃ (c : A), x = (.agg [(vI r.1.f_Kind), (vS r.1.f_Word), (vI r.1.f_Num), c]) ∧ Sl A0 c r.1.f_Kids ∧ Hp s (.blk d (.cells [(vS a), (vI r.2), (vI b)] 57) :: .app c 64 :: R)) | .pan p => OutP (.ifc 54 (.agg [(vI p.f_at), (vI p.f_e)])) R

def Ew (n : Nat) (b : ByteArray) (c : Int) (a : Int) (d : Int) : Option ((PR Int A3)) := (((cond (decide ((IntKind.wrap .i64 (a + 1)) > 65536)) (some (.ret (.pan (A3.mk d 33)))) (some (.out ()))) : Option (LR Unit (PR Int A3))).bind fun v => match v with | .out _ => some (.val (IntKind.wrap .i64 (a + 1))) | .ret e => some e)

def Jk (c : Nat) (a : ByteArray) (b : Int) (R : List Res) (r : (PR Int A3)) : Out → St → Prop := match r with | .val r => OutV (fun x s => x = (.tup []) ∧ Hp s (.blk c (.cells [(vS a), (vI b), (vI r)] 57) :: R)) | .pan p => OutP (.ifc 54 (.agg [(vI p.f_at), (vI p.f_e)])) R

def Jt (n : Nat) (a : Int) : Option (Bool) := (((cond ((decide (a > 32)) && (decide (a < 127))) (((containsRuneT (ByteArray.mk #[40, 41, 34, 59]) (IntKind.wrap .i32 a)).bind fun b => some (!b))) (some false)) : Option (Bool)).bind fun c => some c)

def gsexp_within_post (R : List Res) (r : Bool) (x : A) (s : St) : Prop := x = (vB r) ∧ Hp s R

def J5 (n : Nat) (a : ByteArray) : Option (Bool) := ((atS a 0).bind fun c => (((cond (c == 45) (some true) (((atS a 0).bind fun d => (cond (decide (d ≥ 48)) (((atS a 0).bind fun b => some (decide (b ≤ 57)))) (some false))))) : Option (Bool)).bind fun e => some e))

def gsexp_numeric_post (R : List Res) (r : Bool) (x : A) (s : St) : Prop := x = (vB r) ∧ Hp s R

def Gs (n : Nat) (b : ByteArray) : Option ((Int × Bool)) := ((atoiT b).bind fun v => match v with | (a, e) => (((cond (((!e) && (decide (a ≥ (-999999999999999999)))) && (decide (a ≤ 999999999999999999))) (((itoaT a).bind fun c => some (decide (c = b)))) (some false)) : Option (Bool)).bind fun d => some (a, d)))

def gsexp_number_post (R : List Res) (r : (Int × Bool)) (x : A) (s : St) : Prop := x = (.tup [(vI r.1), (vB r.2)]) ∧ Hp s R

def Di (N : Nat) (a : ByteArray) : Nat → Int → Option (Int)
 | 0, _ => none
 | m + 1, b => (((cond (decide (b < ((a.size : Nat) : Int))) (((atS a b).bind fun c => ((Jt N c).bind fun d => some d))) (some false)) : Option (Bool)).bind fun e => (cond e (Di N a m (IntKind.wrap .i64 (b + 1))) (some b)))

def Gi (n : Nat) (c : ByteArray) (a : Int) (m : Int) : Option ((PR (Ae × Int) A3)) := ((Di n c n a).bind fun d => ((((subS c a d).bind fun j => some j) : Option (ByteArray)).bind fun b => (((cond (decide (b = (ByteArray.mk #[]))) (((Il n a).bind fun v => match v with | .val _ => some (.out ()) | .pan k => some (.ret (.pan k)))) (some (.out ()))) : Option (LR Unit (PR (Ae × Int) A3))).bind fun v => match v with | .out _ => ((J5 n b).bind fun l => (cond (!l) (some (.val ((Ae.mk 1 b 0 ([] : List Ae)), d))) (((Gs n b).bind fun v => match v with | (e, f) => (((cond (!f) (((Il n a).bind fun v => match v with | .val _ => some (.out ()) | .pan g => some (.ret (.pan g)))) (some (.out ()))) : Option (LR Unit (PR (Ae × Int) A3))).bind fun v => match v with | .out _ => some (.val ((Ae.mk 2 (ByteArray.mk #[]) e ([] : List Ae)), d)) | .ret h => some h))))) | .ret i => some i)))

def Is (d : Nat) (a : ByteArray) (b : Int) (R : List Res) (r : (PR (Ae × Int) A3)) : Out → St → Prop := match r with | .val r => OutV (fun x s => ∃ (c : A), x = (.agg [(vI r.1.f_Kind), (vS r.1.f_Word), (vI r.1.f_Num), c]) ∧ Sl A0 c r.1.f_Kids ∧ Hp s (.blk d (.cells [(vS a), (vI r.2), (vI b)] 57) :: .app c 64 :: R)) | .pan p => OutP (.ifc 54 (.agg [(vI p.f_at), (vI p.f_e)])) R

def Ce (N : Nat) (rec : ByteArray → Int → Int → Int → Option (PR ((List Ae) × Int × Int) A3)) (a : ByteArray) (e : Int) : Nat → (List Ae) → Int → Int → Option (LR Unit (PR ((List Ae) × Int × Int) A3))
 | 0, _, _, _ => none
 | m + 1, d, i, c => ((G7 N a i c).bind fun b => ((some (b == ((a.size : Nat) : Int)) : Option (Bool)).bind fun j => (cond j ((((cond (decide (e > 0)) (((Il N b).bind fun v => match v with | .val _ => some (.out ()) | .pan k => some (.ret (.pan k)))) (some (.out ()))) : Option (LR Unit (PR ((List Ae) × Int × Int) A3))).bind fun v => match v with | .out _ => some (.ret (.val (d, b, c))) | .ret l => some (.ret l))) (((((atS a b).bind fun n => some n) : Option (Int)).bind fun f => (cond (f == 41) ((((cond (e == 0) (((Il N b).bind fun v => match v with | .val _ => some (.out ()) | .pan o => some (.ret (.pan o)))) (some (.out ()))) : Option (LR Unit (PR ((List Ae) × Int × Int) A3))).bind fun v => match v with | .out _ => some (.ret (.val (d, (IntKind.wrap .i64 (b + 1)), c))) | .ret p => some (.ret p))) ((cond (f == 40) (((H7 N a b c (IntKind.wrap .i64 (e + 1))).bind fun v => match v with | .val q => ((rec a (IntKind.wrap .i64 (b + 1)) q (IntKind.wrap .i64 (e + 1))).bind fun v => match v with | .val (r, s, t) => ((appL 56 d ([(Ae.mk 4 (ByteArray.mk #[]) 0 r)] : List Ae)).bind fun u => Ce N rec a e m u s t) | .pan w => some (.ret (.pan w))) | .pan x => some (.ret (.pan x)))) ((cond (f == 34) (((E9 N a b c).bind fun v => match v with | .val (y, g) => ((Ew N a g c b).bind fun v => match v with | .val z => ((appL 56 d ([y] : List Ae)).bind fun a0 => Ce N rec a e m a0 g z) | .pan a1 => some (.ret (.pan a1))) | .pan a2 => some (.ret (.pan a2)))) (((Gi N a b c).bind fun v => match v with | .val (a3, h) => ((Ew N a h c b).bind fun v => match v with | .val a4 => ((appL 56 d ([a3] : List Ae)).bind fun a5 => Ce N rec a e m a5 h a4) | .pan a6 => some (.ret (.pan a6))) | .pan a7 => some (.ret (.pan a7))))))))))))))

def B8 (N : Nat) : Nat → ByteArray → Int → Int → Int → Option (PR ((List Ae) × Int × Int) A3)
 | 0, _, _, _, _ => none
 | k + 1, a, b, c, e => ((Ce N (B8 N k) a e N ([] : List Ae) b c).bind fun v => match v with | .ret d => some d | .out _ => none)

def Ke (n : Nat) (a : ByteArray) (b : Int) (c : Int) (d : Int) : Option ((PR ((List Ae) × Int × Int) A3)) := B8 n n a b c d

def Fa (c : Nat) (a : ByteArray) (R : List Res) (r : (PR ((List Ae) × Int × Int) A3)) : Out → St → Prop := match r with | .val r => OutV (fun x s => ∃ (b : A), x = b ∧ Sl A0 b r.1 ∧ Hp s (.blk c (.cells [(vS a), (vI r.2.1), (vI r.2.2)] 57) :: .app b 64 :: R)) | .pan p => OutP (.ifc 54 (.agg [(vI p.f_at), (vI p.f_e)])) R

def gsexp_Parse_1_fin (n : Nat) (a : (List Ae)) (b : Int) (c : Int) : Option Unit := ((some () : Option (Unit)).bind fun _ => some ())

def gsexp_Parse_1_pan (n : Nat) (g : (List Ae)) (h : Int) (i : Int) (pp : A3) : Option ((List Ae) × Int × Int) := ((((some (([] : List Ae), pp.f_at, pp.f_e) : Option (((List Ae) × Int × Int))).bind fun v => match v with | (a, b, c) => some (a, b, c)) : Option (((List Ae) × Int × Int))).bind fun v => match v with | (d, e, f) => some (d, e, f))

def Gz (n : Nat) (b : ByteArray) : Option (((List Ae) × Int × Int)) := (cond (decide (((b.size : Nat) : Int) > 262144)) (some (([] : List Ae), 0, 33)) (((Ke n b 0 0 0).bind fun v => match v with | .val (a, g, h) => ((gsexp_Parse_1_fin n a 0 0).bind fun v => match v with | _ => some (a, 0, 0)) | .pan c => ((gsexp_Parse_1_pan n ([] : List Ae) 0 0 c).bind fun v => match v with | (d, e, f) => some (d, e, f)))))

def gsexp_Parse_post (R : List Res) (r : ((List Ae) × Int × Int)) (x : A) (s : St) : Prop := ∃ (a : A), x = (.tup [a, (vI r.2.1), (vI r.2.2)]) ∧ Sl A0 a r.1 ∧ Hp s (.app a 64 :: R)

def Ay (n : Nat) (a : Bool) (b : Int) : Option ((PR Unit Int)) := (((cond (!a) (some (.ret (.pan b))) (some (.out ()))) : Option (LR Unit (PR Unit Int))).bind fun v => match v with | .out _ => some (.val ()) | .ret c => some c)

def gisadl_must_post (R : List Res) (r : (PR Unit Int)) : Out → St → Prop := match r with | .val r => OutV (fun x s => x = (.tup []) ∧ Hp s R) | .pan p => OutP (.ifc 24 (vI p)) R

def Ej (n : Nat) (a : Ae) : Option ((PR Tisadl_cursor Int)) := ((Ay n (a.f_Kind == 4) 41).bind fun v => match v with | .val _ => some (.val (Tisadl_cursor.mk a.f_Kids)) | .pan b => some (.pan b))

def gisadl_list_post (R : List Res) (r : (PR Tisadl_cursor Int)) : Out → St → Prop := match r with | .val r => OutV (fun x s => ∃ (bp_r : Nat), ∃ (a : A), x = (.ptr bp_r 0) ∧ Sl A0 a r.f_rest ∧ Hp s (.blk bp_r (.cells [a] 167) :: R)) | .pan p => OutP (.ifc 24 (vI p)) R

def H8 (n : Nat) (a : (List Ae)) : Option (Bool) := some (decide (((a.length : Nat) : Int) > 0))

def gc_more_post (a : Nat) (b : A) (R : List Res) (r : Bool) (x : A) (s : St) : Prop := x = (vB r) ∧ Hp s (.blk a (.cells [b] 167) :: R)

def Fh (n : Nat) (a : (List Ae)) (b : Int) : Option ((PR (Ae × (List Ae)) Int)) := ((H8 n a).bind fun c => (((cond c ((cond (b == 0) (some true) (((atL a 0).bind fun d => some (d.f_Kind == b))))) (some false)) : Option (Bool)).bind fun e => ((Ay n e 41).bind fun v => match v with | .val _ => ((atL a 0).bind fun f => ((subL a 1 ((a.length : Nat) : Int)).bind fun g => some (.val (f, g)))) | .pan h => some (.pan h))))

def gc_next_post (a : Nat) (R : List Res) (r : (PR (Ae × (List Ae)) Int)) : Out → St → Prop := match r with | .val r => OutV (fun x s => ∃ (b c : A), x = (.agg [(vI r.1.f_Kind), (vS r.1.f_Word), (vI r.1.f_Num), b]) ∧ Sl A0 b r.1.f_Kids ∧ Sl A0 c r.2 ∧ Hp s (.blk a (.cells [c] 167) :: R)) | .pan p => OutP (.ifc 24 (vI p)) R

def Db (n : Nat) (a : (List Ae)) : Option ((PR (ByteArray × (List Ae)) Int)) := ((Fh n a 1).bind fun v => match v with | .val (c, d) => some (.val (c.f_Word, d)) | .pan b => some (.pan b))

def gc_word_post (a : Nat) (R : List Res) (r : (PR (ByteArray × (List Ae)) Int)) : Out → St → Prop := match r with | .val r => OutV (fun x s => ∃ (b : A), x = (vS r.1) ∧ Sl A0 b r.2 ∧ Hp s (.blk a (.cells [b] 167) :: R)) | .pan p => OutP (.ifc 24 (vI p)) R

def Dj (N : Nat) (b : (List ByteArray)) (c : ByteArray) : Nat → Int → Option (LR Unit Int)
 | 0, _ => none
 | m + 1, a => (cond (decide (a < ((b.length : Nat) : Int))) (((atL b a).bind fun d => (cond (decide (c = d)) (some (.ret a)) (Dj N b c m (IntKind.wrap .i64 (a + 1)))))) (some (.out ())))

def Eu (n : Nat) (b : (List ByteArray)) (c : ByteArray) : Option (Int) := ((Dj n b c n 0).bind fun v => match v with | .out _ => some (-1) | .ret a => some a)

def gslices_Index_143_post (R : List Res) (r : Int) (x : A) (s : St) : Prop := x = (vI r) ∧ Hp s R

def Fb (n : Nat) (a : (List ByteArray)) (b : ByteArray) : Option (Bool) := ((Eu n a b).bind fun c => some (decide (c ≥ 0)))

def gslices_Contains_105_post (R : List Res) (r : Bool) (x : A) (s : St) : Prop := x = (vB r) ∧ Hp s R

def Kb (n : Nat) (a : Fz) : Option (ByteArray) := some a.f_Name

def gisadl_fileName_post (R : List Res) (r : ByteArray) (x : A) (s : St) : Prop := x = (vS r) ∧ Hp s R

def It (n : Nat) (b : Fz) (a : ByteArray) : Option (Bool) := ((((Kb n b).bind fun c => some (decide (c = a))) : Option (Bool)).bind fun d => some d)

def gisadl_fresh_1_147_108_post (b : Nat) (c : Nat) (a : ByteArray) (R : List Res) (r : Bool) (x : A) (s : St) : Prop := x = (vB r) ∧ Hp s (.blk b (.cells [(.fn (.func 108) [] [])] 171) :: .blk c (.cells [(vS a)] 9) :: R)

def Bp (N : Nat) (c : (List Fz)) (a : ByteArray) : Nat → Int → Option (LR Unit Int)
 | 0, _ => none
 | m + 1, b => (cond (decide (b < ((c.length : Nat) : Int))) (((atL c b).bind fun d => ((It N d a).bind fun e => (cond e (some (.ret b)) (Bp N c a m (IntKind.wrap .i64 (b + 1))))))) (some (.out ())))

def Dk (n : Nat) (c : (List Fz)) (a : ByteArray) : Option (Int) := ((Bp n c a n 0).bind fun v => match v with | .out _ => some (-1) | .ret b => some b)

def G8 (b : Nat) (c : Nat) (a : ByteArray) (R : List Res) (r : Int) (x : A) (s : St) : Prop := x = (vI r) ∧ Hp s (.blk b (.cells [(.fn (.func 108) [] [])] 171) :: .blk c (.cells [(vS a)] 9) :: R)

def C1 (n : Nat) (b : (List Fz)) (a : ByteArray) : Option (Bool) := ((Dk n b a).bind fun c => some (decide (c ≥ 0)))

def Ju (b : Nat) (c : Nat) (a : ByteArray) (R : List Res) (r : Bool) (x : A) (s : St) : Prop := x = (vB r) ∧ Hp s (.blk b (.cells [(.fn (.func 108) [] [])] 171) :: .blk c (.cells [(vS a)] 9) :: R)

def F9 (n : Nat) (a : (List Fz)) (b : ByteArray) (e : Int) : Option ((PR ByteArray Int)) := ((C1 n a b).bind fun f => ((Ay n (!f) 42).bind fun v => match v with | .val _ => ((Ay n (decide (((a.length : Nat) : Int) < e)) 43).bind fun v => match v with | .val _ => some (.val b) | .pan c => some (.pan c)) | .pan d => some (.pan d)))

def gisadl_fresh_107_108_post (R : List Res) (r : (PR ByteArray Int)) : Out → St → Prop := match r with | .val r => OutV (fun x s => x = (vS r) ∧ Hp s R) | .pan p => OutP (.ifc 24 (vI p)) R

def Fi (n : Nat) (a : (List Ae)) : Option ((PR (Int × (List Ae)) Int)) := ((Fh n a 2).bind fun v => match v with | .val (b, e) => ((Ay n (decide (b.f_Num ≥ 0)) 41).bind fun v => match v with | .val _ => some (.val (b.f_Num, e)) | .pan c => some (.pan c)) | .pan d => some (.pan d))

def gc_num_post (a : Nat) (R : List Res) (r : (PR (Int × (List Ae)) Int)) : Out → St → Prop := match r with | .val r => OutV (fun x s => ∃ (b : A), x = (vI r.1) ∧ Sl A0 b r.2 ∧ Hp s (.blk a (.cells [b] 167) :: R)) | .pan p => OutP (.ifc 24 (vI p)) R

def gc_is (n : Nat) (a : (List Ae)) (g : ByteArray) : Option ((Bool × (List Ae))) := ((H8 n a).bind fun h => (((cond h (((atL a 0).bind fun b => some (b.f_Kind == 1))) (some false)) : Option (Bool)).bind fun c => (((cond c (((atL a 0).bind fun d => some (decide (d.f_Word = g)))) (some false)) : Option (Bool)).bind fun e => (cond e (((subL a 1 ((a.length : Nat) : Int)).bind fun f => some (true, f))) (some (false, a))))))

def gc_is_post (a : Nat) (R : List Res) (r : (Bool × (List Ae))) (x : A) (s : St) : Prop := ∃ (b : A), x = (vB r.1) ∧ Sl A0 b r.2 ∧ Hp s (.blk a (.cells [b] 167) :: R)

def gisadl_aliasName (n : Nat) (a : Dt) : Option (ByteArray) := some a.f_Name

def gisadl_aliasName_post (R : List Res) (r : ByteArray) (x : A) (s : St) : Prop := x = (vS r) ∧ Hp s R

def I8 (n : Nat) (b : Dt) (a : ByteArray) : Option (Bool) := ((((gisadl_aliasName n b).bind fun c => some (decide (c = a))) : Option (Bool)).bind fun d => some d)

def gisadl_fresh_1_111_71_post (b : Nat) (c : Nat) (a : ByteArray) (R : List Res) (r : Bool) (x : A) (s : St) : Prop := x = (vB r) ∧ Hp s (.blk b (.cells [(.fn (.func 71) [] [])] 144) :: .blk c (.cells [(vS a)] 9) :: R)

def Bx (N : Nat) (c : (List Dt)) (a : ByteArray) : Nat → Int → Option (LR Unit Int)
 | 0, _ => none
 | m + 1, b => (cond (decide (b < ((c.length : Nat) : Int))) (((atL c b).bind fun d => ((I8 N d a).bind fun e => (cond e (some (.ret b)) (Bx N c a m (IntKind.wrap .i64 (b + 1))))))) (some (.out ())))

def Dw (n : Nat) (c : (List Dt)) (a : ByteArray) : Option (Int) := ((Bx n c a n 0).bind fun v => match v with | .out _ => some (-1) | .ret b => some b)

def Ho (b : Nat) (c : Nat) (a : ByteArray) (R : List Res) (r : Int) (x : A) (s : St) : Prop := x = (vI r) ∧ Hp s (.blk b (.cells [(.fn (.func 71) [] [])] 144) :: .blk c (.cells [(vS a)] 9) :: R)

def C6 (n : Nat) (b : (List Dt)) (a : ByteArray) : Option (Bool) := ((Dw n b a).bind fun c => some (decide (c ≥ 0)))

def J0 (b : Nat) (c : Nat) (a : ByteArray) (R : List Res) (r : Bool) (x : A) (s : St) : Prop := x = (vB r) ∧ Hp s (.blk b (.cells [(.fn (.func 71) [] [])] 144) :: .blk c (.cells [(vS a)] 9) :: R)

def Fy (n : Nat) (a : (List Dt)) (b : ByteArray) (e : Int) : Option ((PR ByteArray Int)) := ((C6 n a b).bind fun f => ((Ay n (!f) 42).bind fun v => match v with | .val _ => ((Ay n (decide (((a.length : Nat) : Int) < e)) 43).bind fun v => match v with | .val _ => some (.val b) | .pan c => some (.pan c)) | .pan d => some (.pan d)))

def gisadl_fresh_70_71_post (R : List Res) (r : (PR ByteArray Int)) : Out → St → Prop := match r with | .val r => OutV (fun x s => x = (vS r) ∧ Hp s R) | .pan p => OutP (.ifc 24 (vI p)) R

def Iu (n : Nat) (b : Fz) (a : ByteArray) : Option (Bool) := ((((Kb n b).bind fun c => some (decide (c = a))) : Option (Bool)).bind fun d => some d)

def gisadl_place_1_150_108_post (b : Nat) (c : Nat) (a : ByteArray) (R : List Res) (r : Bool) (x : A) (s : St) : Prop := x = (vB r) ∧ Hp s (.blk b (.cells [(.fn (.func 108) [] [])] 171) :: .blk c (.cells [(vS a)] 9) :: R)

def Bq (N : Nat) (c : (List Fz)) (a : ByteArray) : Nat → Int → Option (LR Unit Int)
 | 0, _ => none
 | m + 1, b => (cond (decide (b < ((c.length : Nat) : Int))) (((atL c b).bind fun d => ((Iu N d a).bind fun e => (cond e (some (.ret b)) (Bq N c a m (IntKind.wrap .i64 (b + 1))))))) (some (.out ())))

def Dl (n : Nat) (c : (List Fz)) (a : ByteArray) : Option (Int) := ((Bq n c a n 0).bind fun v => match v with | .out _ => some (-1) | .ret b => some b)

def G9 (b : Nat) (c : Nat) (a : ByteArray) (R : List Res) (r : Int) (x : A) (s : St) : Prop := x = (vI r) ∧ Hp s (.blk b (.cells [(.fn (.func 108) [] [])] 171) :: .blk c (.cells [(vS a)] 9) :: R)

def Ek (n : Nat) (c : (List Fz)) (d : ByteArray) : Option ((PR Int Int)) := ((Dl n c d).bind fun a => ((Ay n (decide (a ≥ 0)) 42).bind fun v => match v with | .val _ => some (.val a) | .pan b => some (.pan b)))

def gisadl_place_112_108_post (R : List Res) (r : (PR Int Int)) : Out → St → Prop := match r with | .val r => OutV (fun x s => x = (vI r) ∧ Hp s R) | .pan p => OutP (.ifc 24 (vI p)) R

def Kc (n : Nat) (a : ByteArray) : Option (ByteArray) := some a

def gisadl_flagName_post (R : List Res) (r : ByteArray) (x : A) (s : St) : Prop := x = (vS r) ∧ Hp s R

def I9 (n : Nat) (b : ByteArray) (a : ByteArray) : Option (Bool) := ((((Kc n b).bind fun c => some (decide (c = a))) : Option (Bool)).bind fun d => some d)

def gisadl_fresh_1_114_75_post (b : Nat) (c : Nat) (a : ByteArray) (R : List Res) (r : Bool) (x : A) (s : St) : Prop := x = (vB r) ∧ Hp s (.blk b (.cells [(.fn (.func 75) [] [])] 147) :: .blk c (.cells [(vS a)] 9) :: R)

def Bz (N : Nat) (c : (List ByteArray)) (a : ByteArray) : Nat → Int → Option (LR Unit Int)
 | 0, _ => none
 | m + 1, b => (cond (decide (b < ((c.length : Nat) : Int))) (((atL c b).bind fun d => ((I9 N d a).bind fun e => (cond e (some (.ret b)) (Bz N c a m (IntKind.wrap .i64 (b + 1))))))) (some (.out ())))

def Dx (n : Nat) (c : (List ByteArray)) (a : ByteArray) : Option (Int) := ((Bz n c a n 0).bind fun v => match v with | .out _ => some (-1) | .ret b => some b)

def Hq (b : Nat) (c : Nat) (a : ByteArray) (R : List Res) (r : Int) (x : A) (s : St) : Prop := x = (vI r) ∧ Hp s (.blk b (.cells [(.fn (.func 75) [] [])] 147) :: .blk c (.cells [(vS a)] 9) :: R)

def C7 (n : Nat) (b : (List ByteArray)) (a : ByteArray) : Option (Bool) := ((Dx n b a).bind fun c => some (decide (c ≥ 0)))

def J1 (b : Nat) (c : Nat) (a : ByteArray) (R : List Res) (r : Bool) (x : A) (s : St) : Prop := x = (vB r) ∧ Hp s (.blk b (.cells [(.fn (.func 75) [] [])] 147) :: .blk c (.cells [(vS a)] 9) :: R)

def Ha (n : Nat) (a : (List ByteArray)) (b : ByteArray) (e : Int) : Option ((PR ByteArray Int)) := ((C7 n a b).bind fun f => ((Ay n (!f) 42).bind fun v => match v with | .val _ => ((Ay n (decide (((a.length : Nat) : Int) < e)) 43).bind fun v => match v with | .val _ => some (.val b) | .pan c => some (.pan c)) | .pan d => some (.pan d)))

def gisadl_fresh_74_75_post (R : List Res) (r : (PR ByteArray Int)) : Out → St → Prop := match r with | .val r => OutV (fun x s => x = (vS r) ∧ Hp s R) | .pan p => OutP (.ifc 24 (vI p)) R

def Jv (n : Nat) (a : Ee) : Option (ByteArray) := some a.f_Name

def gisadl_className_post (R : List Res) (r : ByteArray) (x : A) (s : St) : Prop := x = (vS r) ∧ Hp s R

def Iv (n : Nat) (c : Ee) (a : ByteArray) : Option (Bool) := ((((Jv n c).bind fun b => some (decide (b = a))) : Option (Bool)).bind fun d => some d)

def gisadl_fresh_1_153_116_post (b : Nat) (c : Nat) (a : ByteArray) (R : List Res) (r : Bool) (x : A) (s : St) : Prop := x = (vB r) ∧ Hp s (.blk b (.cells [(.fn (.func 116) [] [])] 177) :: .blk c (.cells [(vS a)] 9) :: R)

def Br (N : Nat) (c : (List Ee)) (a : ByteArray) : Nat → Int → Option (LR Unit Int)
 | 0, _ => none
 | m + 1, b => (cond (decide (b < ((c.length : Nat) : Int))) (((atL c b).bind fun d => ((Iv N d a).bind fun e => (cond e (some (.ret b)) (Br N c a m (IntKind.wrap .i64 (b + 1))))))) (some (.out ())))

def Dm (n : Nat) (c : (List Ee)) (a : ByteArray) : Option (Int) := ((Br n c a n 0).bind fun v => match v with | .out _ => some (-1) | .ret b => some b)

def Hb (b : Nat) (c : Nat) (a : ByteArray) (R : List Res) (r : Int) (x : A) (s : St) : Prop := x = (vI r) ∧ Hp s (.blk b (.cells [(.fn (.func 116) [] [])] 177) :: .blk c (.cells [(vS a)] 9) :: R)

def C2 (n : Nat) (b : (List Ee)) (a : ByteArray) : Option (Bool) := ((Dm n b a).bind fun c => some (decide (c ≥ 0)))

def Jw (b : Nat) (c : Nat) (a : ByteArray) (R : List Res) (r : Bool) (x : A) (s : St) : Prop := x = (vB r) ∧ Hp s (.blk b (.cells [(.fn (.func 116) [] [])] 177) :: .blk c (.cells [(vS a)] 9) :: R)

def Ga (n : Nat) (a : (List Ee)) (b : ByteArray) (e : Int) : Option ((PR ByteArray Int)) := ((C2 n a b).bind fun f => ((Ay n (!f) 42).bind fun v => match v with | .val _ => ((Ay n (decide (((a.length : Nat) : Int) < e)) 43).bind fun v => match v with | .val _ => some (.val b) | .pan c => some (.pan c)) | .pan d => some (.pan d)))

def gisadl_fresh_115_116_post (R : List Res) (r : (PR ByteArray Int)) : Out → St → Prop := match r with | .val r => OutV (fun x s => x = (vS r) ∧ Hp s R) | .pan p => OutP (.ifc 24 (vI p)) R

def Kd (n : Nat) (a : F0) : Option (ByteArray) := some a.f_Name

def gisadl_formName_post (R : List Res) (r : ByteArray) (x : A) (s : St) : Prop := x = (vS r) ∧ Hp s R

def Ja (n : Nat) (d : F0) (a : ByteArray) : Option (Bool) := ((((Kd n d).bind fun b => some (decide (b = a))) : Option (Bool)).bind fun c => some c)

def gisadl_fresh_1_155_83_post (b : Nat) (c : Nat) (a : ByteArray) (R : List Res) (r : Bool) (x : A) (s : St) : Prop := x = (vB r) ∧ Hp s (.blk b (.cells [(.fn (.func 83) [] [])] 149) :: .blk c (.cells [(vS a)] 9) :: R)

def B0 (N : Nat) (c : (List F0)) (a : ByteArray) : Nat → Int → Option (LR Unit Int)
 | 0, _ => none
 | m + 1, b => (cond (decide (b < ((c.length : Nat) : Int))) (((atL c b).bind fun d => ((Ja N d a).bind fun e => (cond e (some (.ret b)) (B0 N c a m (IntKind.wrap .i64 (b + 1))))))) (some (.out ())))

def Dy (n : Nat) (c : (List F0)) (a : ByteArray) : Option (Int) := ((B0 n c a n 0).bind fun v => match v with | .out _ => some (-1) | .ret b => some b)

def Hr (b : Nat) (c : Nat) (a : ByteArray) (R : List Res) (r : Int) (x : A) (s : St) : Prop := x = (vI r) ∧ Hp s (.blk b (.cells [(.fn (.func 83) [] [])] 149) :: .blk c (.cells [(vS a)] 9) :: R)

def C8 (n : Nat) (b : (List F0)) (a : ByteArray) : Option (Bool) := ((Dy n b a).bind fun c => some (decide (c ≥ 0)))

def J2 (b : Nat) (c : Nat) (a : ByteArray) (R : List Res) (r : Bool) (x : A) (s : St) : Prop := x = (vB r) ∧ Hp s (.blk b (.cells [(.fn (.func 83) [] [])] 149) :: .blk c (.cells [(vS a)] 9) :: R)

def Gn (n : Nat) (a : (List F0)) (b : ByteArray) (e : Int) : Option ((PR ByteArray Int)) := ((C8 n a b).bind fun f => ((Ay n (!f) 42).bind fun v => match v with | .val _ => ((Ay n (decide (((a.length : Nat) : Int) < e)) 43).bind fun v => match v with | .val _ => some (.val b) | .pan c => some (.pan c)) | .pan d => some (.pan d)))

def gisadl_fresh_118_83_post (R : List Res) (r : (PR ByteArray Int)) : Out → St → Prop := match r with | .val r => OutV (fun x s => x = (vS r) ∧ Hp s R) | .pan p => OutP (.ifc 24 (vI p)) R

def gc_text (n : Nat) (a : (List Ae)) : Option ((PR (ByteArray × (List Ae)) Int)) := ((Fh n a 3).bind fun v => match v with | .val (c, d) => some (.val (c.f_Word, d)) | .pan b => some (.pan b))

def gc_text_post (a : Nat) (R : List Res) (r : (PR (ByteArray × (List Ae)) Int)) : Out → St → Prop := match r with | .val r => OutV (fun x s => ∃ (b : A), x = (vS r.1) ∧ Sl A0 b r.2 ∧ Hp s (.blk a (.cells [b] 167) :: R)) | .pan p => OutP (.ifc 24 (vI p)) R

def gisadl_argName (n : Nat) (a : Da) : Option (ByteArray) := some a.f_Name

def gisadl_argName_post (R : List Res) (r : ByteArray) (x : A) (s : St) : Prop := x = (vS r) ∧ Hp s R

def Iw (n : Nat) (b : Da) (a : ByteArray) : Option (Bool) := ((((gisadl_argName n b).bind fun c => some (decide (c = a))) : Option (Bool)).bind fun d => some d)

def gisadl_fresh_1_157_121_post (b : Nat) (c : Nat) (a : ByteArray) (R : List Res) (r : Bool) (x : A) (s : St) : Prop := x = (vB r) ∧ Hp s (.blk b (.cells [(.fn (.func 121) [] [])] 180) :: .blk c (.cells [(vS a)] 9) :: R)

def Bs (N : Nat) (c : (List Da)) (a : ByteArray) : Nat → Int → Option (LR Unit Int)
 | 0, _ => none
 | m + 1, b => (cond (decide (b < ((c.length : Nat) : Int))) (((atL c b).bind fun d => ((Iw N d a).bind fun e => (cond e (some (.ret b)) (Bs N c a m (IntKind.wrap .i64 (b + 1))))))) (some (.out ())))

def Dn (n : Nat) (c : (List Da)) (a : ByteArray) : Option (Int) := ((Bs n c a n 0).bind fun v => match v with | .out _ => some (-1) | .ret b => some b)

def Hc (b : Nat) (c : Nat) (a : ByteArray) (R : List Res) (r : Int) (x : A) (s : St) : Prop := x = (vI r) ∧ Hp s (.blk b (.cells [(.fn (.func 121) [] [])] 180) :: .blk c (.cells [(vS a)] 9) :: R)

def C3 (n : Nat) (b : (List Da)) (a : ByteArray) : Option (Bool) := ((Dn n b a).bind fun c => some (decide (c ≥ 0)))

def Jx (b : Nat) (c : Nat) (a : ByteArray) (R : List Res) (r : Bool) (x : A) (s : St) : Prop := x = (vB r) ∧ Hp s (.blk b (.cells [(.fn (.func 121) [] [])] 180) :: .blk c (.cells [(vS a)] 9) :: R)

def Gb (n : Nat) (a : (List Da)) (b : ByteArray) (e : Int) : Option ((PR ByteArray Int)) := ((C3 n a b).bind fun f => ((Ay n (!f) 42).bind fun v => match v with | .val _ => ((Ay n (decide (((a.length : Nat) : Int) < e)) 43).bind fun v => match v with | .val _ => some (.val b) | .pan c => some (.pan c)) | .pan d => some (.pan d)))

def gisadl_fresh_120_121_post (R : List Res) (r : (PR ByteArray Int)) : Out → St → Prop := match r with | .val r => OutV (fun x s => x = (vS r) ∧ Hp s R) | .pan p => OutP (.ifc 24 (vI p)) R

def Ix (n : Nat) (c : Ee) (a : ByteArray) : Option (Bool) := ((((Jv n c).bind fun b => some (decide (b = a))) : Option (Bool)).bind fun d => some d)

def gisadl_place_1_186_116_post (b : Nat) (c : Nat) (a : ByteArray) (R : List Res) (r : Bool) (x : A) (s : St) : Prop := x = (vB r) ∧ Hp s (.blk b (.cells [(.fn (.func 116) [] [])] 177) :: .blk c (.cells [(vS a)] 9) :: R)

def Bt (N : Nat) (c : (List Ee)) (a : ByteArray) : Nat → Int → Option (LR Unit Int)
 | 0, _ => none
 | m + 1, b => (cond (decide (b < ((c.length : Nat) : Int))) (((atL c b).bind fun d => ((Ix N d a).bind fun e => (cond e (some (.ret b)) (Bt N c a m (IntKind.wrap .i64 (b + 1))))))) (some (.out ())))

def Dp (n : Nat) (c : (List Ee)) (a : ByteArray) : Option (Int) := ((Bt n c a n 0).bind fun v => match v with | .out _ => some (-1) | .ret b => some b)

def Hd (b : Nat) (c : Nat) (a : ByteArray) (R : List Res) (r : Int) (x : A) (s : St) : Prop := x = (vI r) ∧ Hp s (.blk b (.cells [(.fn (.func 116) [] [])] 177) :: .blk c (.cells [(vS a)] 9) :: R)

def Fc (n : Nat) (c : (List Ee)) (d : ByteArray) : Option ((PR Int Int)) := ((Dp n c d).bind fun a => ((Ay n (decide (a ≥ 0)) 42).bind fun v => match v with | .val _ => some (.val a) | .pan b => some (.pan b)))

def gisadl_place_158_116_post (R : List Res) (r : (PR Int Int)) : Out → St → Prop := match r with | .val r => OutV (fun x s => x = (vI r) ∧ Hp s R) | .pan p => OutP (.ifc 24 (vI p)) R

def gr_class (n : Nat) (p : TRd) (c : ByteArray) (d : ByteArray) (e : (List Da)) (f : (List B5)) (g : (List Ao)) (a : (List Ae)) : Option ((PR (Int × (List Ae)) Int)) := ((((Db n a).bind fun v => match v with | .val (h, i) => ((Fc n p.f_Desc.f_Classes h).bind fun v => match v with | .val j => some (.out (j, i)) | .pan k => some (.ret (.pan k))) | .pan l => some (.ret (.pan l))) : Option (LR (Int × (List Ae)) (PR (Int × (List Ae)) Int))).bind fun v => match v with | .out (m, o) => some (.val (m, o)) | .ret b => some b)

def gr_class_post (f : Nat) (d : Nat) (g : Nat) (b : ByteArray) (c : ByteArray) (h : A) (i : A) (j : A) (a : (List A)) (R : List Res) (r : (PR (Int × (List Ae)) Int)) : Out → St → Prop := match r with | .val r => OutV (fun x s => ∃ (e : A), x = (vI r.1) ∧ Sl A0 e r.2 ∧ Hp s (.blk f (.cells a 62) :: .blk d (.cells [(vS b), (vS c), h, i, j] 50) :: .blk g (.cells [e] 167) :: ap a 2 72 :: ap a 3 74 :: ap a 4 9 :: ap a 5 78 :: ap a 6 50 :: ap a 7 82 :: ap a 8 119 :: ap a 9 123 :: ap a 10 115 :: ap a 11 127 :: ap a 12 74 :: .app h 130 :: .app i 132 :: .app j 52 :: R)) | .pan p => OutP (.ifc 24 (vI p)) R

def gc_end (n : Nat) (a : (List Ae)) : Option ((PR Unit Int)) := ((H8 n a).bind fun c => ((Ay n (!c) 41).bind fun v => match v with | .val _ => some (.val ()) | .pan b => some (.pan b)))

def gc_end_post (a : Nat) (b : A) (R : List Res) (r : (PR Unit Int)) : Out → St → Prop := match r with | .val r => OutV (fun x s => x = (.tup []) ∧ Hp s (.blk a (.cells [b] 167) :: R)) | .pan p => OutP (.ifc 24 (vI p)) R

def Fj (n : Nat) (b : ByteArray) (a : ByteArray) : Option (Bool) := (((cond (decide (((b.size : Nat) : Int) ≥ ((a.size : Nat) : Int))) (((subS b 0 ((a.size : Nat) : Int)).bind fun c => some (decide (c = a)))) (some false)) : Option (Bool)).bind fun d => some d)

def gstringslite_HasPrefix_post (R : List Res) (r : Bool) (x : A) (s : St) : Prop := x = (vB r) ∧ Hp s R

def Gt (n : Nat) (a : ByteArray) (b : ByteArray) : Option ((ByteArray × Bool)) := ((Fj n a b).bind fun c => (cond (!c) (some (a, false)) (((subS a ((b.size : Nat) : Int) ((a.size : Nat) : Int)).bind fun d => some (d, true)))))

def gstringslite_CutPrefix_post (R : List Res) (r : (ByteArray × Bool)) (x : A) (s : St) : Prop := x = (.tup [(vS r.1), (vB r.2)]) ∧ Hp s R

def He (n : Nat) (a : ByteArray) (b : ByteArray) : Option ((ByteArray × Bool)) := ((Gt n a b).bind fun v => match v with | (c, d) => some (c, d))

def gstrings_CutPrefix_post (R : List Res) (r : (ByteArray × Bool)) (x : A) (s : St) : Prop := x = (.tup [(vS r.1), (vB r.2)]) ∧ Hp s R

def Iy (n : Nat) (b : Da) (a : ByteArray) : Option (Bool) := ((((gisadl_argName n b).bind fun c => some (decide (c = a))) : Option (Bool)).bind fun d => some d)

def gisadl_place_1_196_121_post (b : Nat) (c : Nat) (a : ByteArray) (R : List Res) (r : Bool) (x : A) (s : St) : Prop := x = (vB r) ∧ Hp s (.blk b (.cells [(.fn (.func 121) [] [])] 180) :: .blk c (.cells [(vS a)] 9) :: R)

def Bu (N : Nat) (c : (List Da)) (a : ByteArray) : Nat → Int → Option (LR Unit Int)
 | 0, _ => none
 | m + 1, b => (cond (decide (b < ((c.length : Nat) : Int))) (((atL c b).bind fun d => ((Iy N d a).bind fun e => (cond e (some (.ret b)) (Bu N c a m (IntKind.wrap .i64 (b + 1))))))) (some (.out ())))

def Dq (n : Nat) (c : (List Da)) (a : ByteArray) : Option (Int) := ((Bu n c a n 0).bind fun v => match v with | .out _ => some (-1) | .ret b => some b)

def Hf (b : Nat) (c : Nat) (a : ByteArray) (R : List Res) (r : Int) (x : A) (s : St) : Prop := x = (vI r) ∧ Hp s (.blk b (.cells [(.fn (.func 121) [] [])] 180) :: .blk c (.cells [(vS a)] 9) :: R)

def El (n : Nat) (c : (List Da)) (d : ByteArray) : Option ((PR Int Int)) := ((Dq n c d).bind fun a => ((Ay n (decide (a ≥ 0)) 42).bind fun v => match v with | .val _ => some (.val a) | .pan b => some (.pan b)))

def gisadl_place_162_121_post (R : List Res) (r : (PR Int Int)) : Out → St → Prop := match r with | .val r => OutV (fun x s => x = (vI r) ∧ Hp s R) | .pan p => OutP (.ifc 24 (vI p)) R

def Fk (n : Nat) (a : ByteArray) (b : ByteArray) : Option (Bool) := (((cond (decide (((a.size : Nat) : Int) ≥ ((b.size : Nat) : Int))) (((subS a (IntKind.wrap .i64 (((a.size : Nat) : Int) - ((b.size : Nat) : Int))) ((a.size : Nat) : Int)).bind fun c => some (decide (c = b)))) (some false)) : Option (Bool)).bind fun d => some d)

def gstringslite_HasSuffix_post (R : List Res) (r : Bool) (x : A) (s : St) : Prop := x = (vB r) ∧ Hp s R

def Gu (n : Nat) (a : ByteArray) (b : ByteArray) : Option ((ByteArray × Bool)) := ((Fk n a b).bind fun c => (cond (!c) (some (a, false)) (((subS a 0 (IntKind.wrap .i64 (((a.size : Nat) : Int) - ((b.size : Nat) : Int)))).bind fun d => some (d, true)))))

def gstringslite_CutSuffix_post (R : List Res) (r : (ByteArray × Bool)) (x : A) (s : St) : Prop := x = (.tup [(vS r.1), (vB r.2)]) ∧ Hp s R

def Hg (n : Nat) (a : ByteArray) (b : ByteArray) : Option ((ByteArray × Bool)) := ((Gu n a b).bind fun v => match v with | (c, d) => some (c, d))

def gstrings_CutSuffix_post (R : List Res) (r : (ByteArray × Bool)) (x : A) (s : St) : Prop := x = (.tup [(vS r.1), (vB r.2)]) ∧ Hp s R

def I7 (n : Nat) (a : ByteArray) : Option ((PR Int Int)) := ((atoiT a).bind fun v => match v with | (b, f) => (((cond (((!f) && (decide (((a.size : Nat) : Int) ≤ 2))) && (decide (b ≥ 0))) (((itoaT b).bind fun c => some (decide (c = a)))) (some false)) : Option (Bool)).bind fun d => ((Ay n d 41).bind fun v => match v with | .val _ => some (.val b) | .pan e => some (.pan e))))

def gisadl_digits_post (R : List Res) (r : (PR Int Int)) : Out → St → Prop := match r with | .val r => OutV (fun x s => x = (vI r) ∧ Hp s R) | .pan p => OutP (.ifc 24 (vI p)) R

def gr_piece (n : Nat) (a7 : TRd) (q : ByteArray) (r : ByteArray) (a : (List Da)) (s : (List B5)) (t : (List Ao)) (u : ByteArray) : Option ((PR B5 Int)) := ((He n u (ByteArray.mk #[46])).bind fun v => match v with | (b, w) => (cond w ((((cond (!decide (b = (ByteArray.mk #[]))) (((trimT b (ByteArray.mk #[48, 49, 120])).bind fun x => some (decide (x = (ByteArray.mk #[]))))) (some false)) : Option (Bool)).bind fun y => ((Ay n y 41).bind fun v => match v with | .val _ => some (.val (B5.mk b (-1) 0 0)) | .pan z => some (.pan z)))) (((cutT u (ByteArray.mk #[91])).bind fun v => match v with | (a0, a1, a2) => ((El n a a0).bind fun v => match v with | .val c => (cond (!a2) (((((atL a c).bind fun a3 => ((atL a7.f_Desc.f_Classes a3.f_Class).bind fun a4 => some (c, (IntKind.wrap .i64 (a4.f_Bits - 1))))) : Option ((Int × Int))).bind fun v => match v with | (a5, a6) => some (.val (B5.mk (ByteArray.mk #[]) a5 a6 0)))) (((Hg n a1 (ByteArray.mk #[93])).bind fun v => match v with | (e, f) => ((Ay n f 41).bind fun v => match v with | .val _ => ((cutT e (ByteArray.mk #[58])).bind fun v => match v with | (d, g, h) => (((cond (!h) (some d) (some g)) : Option (ByteArray)).bind fun i => ((I7 n d).bind fun v => match v with | .val j => ((I7 n i).bind fun v => match v with | .val k => some (.val (B5.mk (ByteArray.mk #[]) c j k)) | .pan l => some (.pan l)) | .pan m => some (.pan m)))) | .pan o => some (.pan o))))) | .pan p => some (.pan p))))))

def gr_piece_post (e : Nat) (d : Nat) (b : ByteArray) (c : ByteArray) (f : A) (g : A) (h : A) (a : (List A)) (R : List Res) (r : (PR B5 Int)) : Out → St → Prop := match r with | .val r => OutV (fun x s => x = (.agg [(vS r.f_Lit), (vI r.f_Arg), (vI r.f_Hi), (vI r.f_Lo)]) ∧ Hp s (.blk e (.cells a 62) :: .blk d (.cells [(vS b), (vS c), f, g, h] 50) :: ap a 2 72 :: ap a 3 74 :: ap a 4 9 :: ap a 5 78 :: ap a 6 50 :: ap a 7 82 :: ap a 8 119 :: ap a 9 123 :: ap a 10 115 :: ap a 11 127 :: ap a 12 74 :: .app f 130 :: .app g 132 :: .app h 52 :: R)) | .pan p => OutP (.ifc 24 (vI p)) R

def Jb (n : Nat) (b : ByteArray) (a : ByteArray) : Option (Bool) := ((((Kc n b).bind fun c => some (decide (c = a))) : Option (Bool)).bind fun d => some d)

def gisadl_place_1_214_75_post (b : Nat) (c : Nat) (a : ByteArray) (R : List Res) (r : Bool) (x : A) (s : St) : Prop := x = (vB r) ∧ Hp s (.blk b (.cells [(.fn (.func 75) [] [])] 147) :: .blk c (.cells [(vS a)] 9) :: R)

def B1 (N : Nat) (c : (List ByteArray)) (a : ByteArray) : Nat → Int → Option (LR Unit Int)
 | 0, _ => none
 | m + 1, b => (cond (decide (b < ((c.length : Nat) : Int))) (((atL c b).bind fun d => ((Jb N d a).bind fun e => (cond e (some (.ret b)) (B1 N c a m (IntKind.wrap .i64 (b + 1))))))) (some (.out ())))

def Dz (n : Nat) (c : (List ByteArray)) (a : ByteArray) : Option (Int) := ((B1 n c a n 0).bind fun v => match v with | .out _ => some (-1) | .ret b => some b)

def Hs (b : Nat) (c : Nat) (a : ByteArray) (R : List Res) (r : Int) (x : A) (s : St) : Prop := x = (vI r) ∧ Hp s (.blk b (.cells [(.fn (.func 75) [] [])] 147) :: .blk c (.cells [(vS a)] 9) :: R)

def Gp (n : Nat) (c : (List ByteArray)) (d : ByteArray) : Option ((PR Int Int)) := ((Dz n c d).bind fun a => ((Ay n (decide (a ≥ 0)) 42).bind fun v => match v with | .val _ => some (.val a) | .pan b => some (.pan b)))

def gisadl_place_198_75_post (R : List Res) (r : (PR Int Int)) : Out → St → Prop := match r with | .val r => OutV (fun x s => x = (vI r) ∧ Hp s R) | .pan p => OutP (.ifc 24 (vI p)) R

def gr_flag (n : Nat) (p : TRd) (c : ByteArray) (d : ByteArray) (e : (List Da)) (f : (List B5)) (g : (List Ao)) (a : (List Ae)) : Option ((PR (Int × (List Ae)) Int)) := ((((Db n a).bind fun v => match v with | .val (h, i) => ((Gp n p.f_Desc.f_Flags h).bind fun v => match v with | .val j => some (.out (j, i)) | .pan k => some (.ret (.pan k))) | .pan l => some (.ret (.pan l))) : Option (LR (Int × (List Ae)) (PR (Int × (List Ae)) Int))).bind fun v => match v with | .out (m, o) => some (.val (m, o)) | .ret b => some b)

def gr_flag_post (f : Nat) (d : Nat) (g : Nat) (b : ByteArray) (c : ByteArray) (h : A) (i : A) (j : A) (a : (List A)) (R : List Res) (r : (PR (Int × (List Ae)) Int)) : Out → St → Prop := match r with | .val r => OutV (fun x s => ∃ (e : A), x = (vI r.1) ∧ Sl A0 e r.2 ∧ Hp s (.blk f (.cells a 62) :: .blk d (.cells [(vS b), (vS c), h, i, j] 50) :: .blk g (.cells [e] 167) :: ap a 2 72 :: ap a 3 74 :: ap a 4 9 :: ap a 5 78 :: ap a 6 50 :: ap a 7 82 :: ap a 8 119 :: ap a 9 123 :: ap a 10 115 :: ap a 11 127 :: ap a 12 74 :: .app h 130 :: .app i 132 :: .app j 52 :: R)) | .pan p => OutP (.ifc 24 (vI p)) R

def gr_register (n : Nat) (a2 : TRd) (s : ByteArray) (t : ByteArray) (b : (List Da)) (u : (List B5)) (w : (List Ao)) (a0 : Int) (a1 : Int) (a : (List Ae)) : Option ((PR (Ao × (List Ae)) Int)) := ((H8 n a).bind fun x => (((cond x (((atL a 0).bind fun y => some (y.f_Kind == 2))) (some false)) : Option (Bool)).bind fun z => (((cond z (((Fi n a).bind fun v => match v with | .val (d, e) => some (.out (e, (IntKind.wrap .i64 ((-1) - d)))) | .pan f => some (.ret (.pan f)))) (((((Db n a).bind fun v => match v with | .val (g, h) => ((El n b g).bind fun v => match v with | .val i => some (.out (h, i)) | .pan j => some (.ret (.pan j))) | .pan k => some (.ret (.pan k))) : Option (LR ((List Ae) × Int) (PR (Ao × (List Ae)) Int))).bind fun v => match v with | .out (l, m) => some (.out (l, m)) | .ret o => some (.ret o)))) : Option (LR ((List Ae) × Int) (PR (Ao × (List Ae)) Int))).bind fun v => match v with | .out (c, p) => ((gc_end n c).bind fun v => match v with | .val _ => some (.val ((Ao.mk a0 0 a1 p ([] : List Ao)), c)) | .pan q => some (.pan q)) | .ret r => some r)))

def gr_register_post (g : Nat) (e : Nat) (h : Nat) (b : ByteArray) (c : ByteArray) (i : A) (j : A) (k : A) (a : (List A)) (R : List Res) (r : (PR (Ao × (List Ae)) Int)) : Out → St → Prop := match r with | .val r => OutV (fun x s => ∃ (d f : A), x = (.agg [(vI r.1.f_Op), (vI r.1.f_W), (vI r.1.f_A), (vI r.1.f_B), d]) ∧ Sl Cm d r.1.f_Kids ∧ Sl A0 f r.2 ∧ Hp s (.blk g (.cells a 62) :: .blk e (.cells [(vS b), (vS c), i, j, k] 50) :: .blk h (.cells [f] 167) :: .app d 52 :: ap a 2 72 :: ap a 3 74 :: ap a 4 9 :: ap a 5 78 :: ap a 6 50 :: ap a 7 82 :: ap a 8 119 :: ap a 9 123 :: ap a 10 115 :: ap a 11 127 :: ap a 12 74 :: .app i 130 :: .app j 132 :: .app k 52 :: R)) | .pan p => OutP (.ifc 24 (vI p)) R

def J6 (g : Nat) (e : Nat) (h : Nat) (b : ByteArray) (c : ByteArray) (i : A) (j : A) (k : A) (a : (List A)) (R : List Res) (r : (PR (Ao × (List Ae)) Int)) : Out → St → Prop := match r with | .val r => OutV (fun x s => ∃ (d f : A), x = (.agg [(vI r.1.f_Op), (vI r.1.f_W), (vI r.1.f_A), (vI r.1.f_B), d]) ∧ Sl Cm d r.1.f_Kids ∧ Sl A0 f r.2 ∧ Hp s (.blk g (.cells a 62) :: .blk e (.cells [(vS b), (vS c), i, j, k] 50) :: .blk h (.cells [f] 167) :: .app d 52 :: ap a 2 72 :: ap a 3 74 :: ap a 4 9 :: ap a 5 78 :: ap a 6 50 :: ap a 7 82 :: ap a 8 119 :: ap a 9 123 :: ap a 10 115 :: ap a 11 127 :: ap a 12 74 :: .app i 130 :: .app j 132 :: .app k 52 :: R)) | .pan p => OutP (.ifc 24 (vI p)) R

def gr_term (n : Nat) (rec167 : TRd → ByteArray → ByteArray → (List Da) → (List B5) → (List Ao) → Ao → (List Ae) → Int → Option (PR (Ao × (List Ae)) Int)) (h : TRd) (b : ByteArray) (c : ByteArray) (a : (List Da)) (d : (List B5)) (e : (List Ao)) (i : Ae) : Option ((PR Ao Int)) := (cond (i.f_Kind == 1) (((Ay n ((decide (i.f_Word = (ByteArray.mk #[112, 99]))) || (decide (i.f_Word = (ByteArray.mk #[110, 101, 120, 116])))) 41).bind fun v => match v with | .val _ => (cond (decide (i.f_Word = (ByteArray.mk #[112, 99]))) (some (.val (Ao.mk 23 0 0 0 ([] : List Ao)))) (some (.val (Ao.mk 24 0 0 0 ([] : List Ao))))) | .pan bd => some (.pan bd))) (((Ej n i).bind fun v => match v with | .val be => ((Db n be.f_rest).bind fun v => match v with | .val (f, g) => ((fieldsT (ByteArray.mk #[97, 100, 100, 32, 115, 117, 98, 32, 109, 117, 108, 32, 97, 110, 100, 32, 111, 114, 32, 120, 111, 114, 32, 115, 104, 108, 32, 115, 104, 114, 32, 115, 97, 114, 32, 100, 105, 118, 117, 32, 114, 101, 109, 117, 32, 100, 105, 118, 115, 32, 114, 101, 109, 115, 32, 101, 113, 32, 108, 116, 117, 32, 108, 116, 115, 32, 99, 97, 116])).bind fun bf => ((Eu n bf f).bind fun j => (cond (decide (j ≥ 0)) (((rec167 h b c a d e (Ao.mk (IntKind.wrap .i64 (1 + j)) 0 0 0 ([] : List Ao)) g 2).bind fun v => match v with | .val (bg, bu) => some (.val bg) | .pan bh => some (.pan bh))) ((cond (decide (f = (ByteArray.mk #[110, 111, 116]))) (((rec167 h b c a d e (Ao.mk 18 0 0 0 ([] : List Ao)) g 1).bind fun v => match v with | .val (bi, bv) => some (.val bi) | .pan bj => some (.pan bj))) ((cond (decide (f = (ByteArray.mk #[110, 101, 103]))) (((rec167 h b c a d e (Ao.mk 19 0 0 0 ([] : List Ao)) g 1).bind fun v => match v with | .val (bk, bw) => some (.val bk) | .pan k => some (.pan k))) ((cond (decide (f = (ByteArray.mk #[99]))) (((Fi n g).bind fun v => match v with | .val (l, m) => ((Fh n m 2).bind fun v => match v with | .val (o, p) => ((rec167 h b c a d e (Ao.mk 20 l o.f_Num 0 ([] : List Ao)) p 0).bind fun v => match v with | .val (q, bl) => some (.val q) | .pan r => some (.pan r)) | .pan s => some (.pan s)) | .pan t => some (.pan t))) ((cond (decide (f = (ByteArray.mk #[105, 109, 109]))) (((((Db n g).bind fun v => match v with | .val (u, w) => ((El n a u).bind fun v => match v with | .val x => some (.out (x, w)) | .pan y => some (.ret (.pan y))) | .pan z => some (.ret (.pan z))) : Option (LR (Int × (List Ae)) (PR Ao Int))).bind fun v => match v with | .out (a0, a1) => ((Fi n a1).bind fun v => match v with | .val (a2, a3) => ((rec167 h b c a d e (Ao.mk 22 a2 a0 0 ([] : List Ao)) a3 0).bind fun v => match v with | .val (a4, bm) => some (.val a4) | .pan a5 => some (.pan a5)) | .pan a6 => some (.pan a6)) | .ret a7 => some a7)) ((cond (decide (f = (ByteArray.mk #[102, 108, 97, 103]))) (((gr_flag n h b c a d e g).bind fun v => match v with | .val (a8, a9) => ((rec167 h b c a d e (Ao.mk 25 0 a8 0 ([] : List Ao)) a9 0).bind fun v => match v with | .val (aa, bn) => some (.val aa) | .pan ab => some (.pan ab)) | .pan ac => some (.pan ac))) ((cond (decide (f = (ByteArray.mk #[108, 100]))) (((Fi n g).bind fun v => match v with | .val (ad, ae) => ((rec167 h b c a d e (Ao.mk 26 ad 0 0 ([] : List Ao)) ae 1).bind fun v => match v with | .val (af, bo) => some (.val af) | .pan ag => some (.pan ag)) | .pan ah => some (.pan ah))) ((cond (decide (f = (ByteArray.mk #[105, 102]))) (((rec167 h b c a d e (Ao.mk 27 0 0 0 ([] : List Ao)) g 3).bind fun v => match v with | .val (ai, bp) => some (.val ai) | .pan aj => some (.pan aj))) ((cond (decide (f = (ByteArray.mk #[115, 120]))) (((Fi n g).bind fun v => match v with | .val (ak, al) => ((rec167 h b c a d e (Ao.mk 28 ak 0 0 ([] : List Ao)) al 1).bind fun v => match v with | .val (am, bq) => some (.val am) | .pan an => some (.pan an)) | .pan ao => some (.pan ao))) ((cond (decide (f = (ByteArray.mk #[122, 120]))) (((Fi n g).bind fun v => match v with | .val (ap, aq) => ((rec167 h b c a d e (Ao.mk 29 ap 0 0 ([] : List Ao)) aq 1).bind fun v => match v with | .val (ar, br) => some (.val ar) | .pan au => some (.pan au)) | .pan av => some (.pan av))) ((cond (decide (f = (ByteArray.mk #[101, 120]))) (((Fi n g).bind fun v => match v with | .val (aw, ax) => ((Fi n ax).bind fun v => match v with | .val (ay, az) => ((rec167 h b c a d e (Ao.mk 30 0 aw ay ([] : List Ao)) az 1).bind fun v => match v with | .val (b0, bs) => some (.val b0) | .pan b1 => some (.pan b1)) | .pan b2 => some (.pan b2)) | .pan b3 => some (.pan b3))) (((fieldsT (ByteArray.mk #[110, 111, 116, 32, 110, 101, 103, 32, 99, 32, 105, 109, 109, 32, 102, 108, 97, 103, 32, 108, 100, 32, 105, 102, 32, 115, 120, 32, 122, 120, 32, 101, 120, 32, 115, 101, 116, 32, 115, 116, 32, 106, 117, 109, 112, 32, 116, 114, 97, 112, 32, 115, 121, 115, 32, 119, 104, 101, 110])).bind fun b4 => ((Fb n b4 f).bind fun b5 => ((Ay n (!b5) 41).bind fun v => match v with | .val _ => ((Ek n h.f_Desc.f_Files f).bind fun v => match v with | .val b6 => ((gr_register n h b c a d e 21 b6 g).bind fun v => match v with | .val (b7, bt) => some (.val b7) | .pan b8 => some (.pan b8)) | .pan b9 => some (.pan b9)) | .pan ba => some (.pan ba)))))))))))))))))))))))))))) | .pan bb => some (.pan bb)) | .pan bc => some (.pan bc))))

def gr_term_post (f : Nat) (e : Nat) (b : ByteArray) (c : ByteArray) (g : A) (h : A) (i : A) (a : (List A)) (R : List Res) (r : (PR Ao Int)) : Out → St → Prop := match r with | .val r => OutV (fun x s => ∃ (d : A), x = (.agg [(vI r.f_Op), (vI r.f_W), (vI r.f_A), (vI r.f_B), d]) ∧ Sl Cm d r.f_Kids ∧ Hp s (.blk f (.cells a 62) :: .blk e (.cells [(vS b), (vS c), g, h, i] 50) :: .app d 52 :: ap a 2 72 :: ap a 3 74 :: ap a 4 9 :: ap a 5 78 :: ap a 6 50 :: ap a 7 82 :: ap a 8 119 :: ap a 9 123 :: ap a 10 115 :: ap a 11 127 :: ap a 12 74 :: .app g 130 :: .app h 132 :: .app i 52 :: R)) | .pan p => OutP (.ifc 24 (vI p)) R

def Im (N : Nat) (rec167 : TRd → ByteArray → ByteArray → (List Da) → (List B5) → (List Ao) → Ao → (List Ae) → Int → Option (PR (Ao × (List Ae)) Int)) (s : TRd) (a : ByteArray) (b : ByteArray) (c : (List Da)) (d : (List B5)) (e : (List Ao)) (t : Int) : Nat → Int → (List Ae) → (List Ao) → Option (LR ((List Ae) × (List Ao)) (PR (Ao × (List Ae)) Int))
 | 0, _, _, _ => none
 | m + 1, f, g, h => (cond (decide (f < t)) (((((Fh N g 0).bind fun v => match v with | .val (i, j) => ((gr_term N rec167 s a b c d e i).bind fun v => match v with | .val k => ((appL 56 h ([k] : List Ao)).bind fun l => some (.out (j, l))) | .pan n => some (.ret (.pan n))) | .pan o => some (.ret (.pan o))) : Option (LR ((List Ae) × (List Ao)) (PR (Ao × (List Ae)) Int))).bind fun v => match v with | .out (p, q) => Im N rec167 s a b c d e t m (IntKind.wrap .i64 (f + 1)) p q | .ret r => some (.ret r))) (some (.out (g, h))))

def F4 (N : Nat) : Nat → TRd → ByteArray → ByteArray → (List Da) → (List B5) → (List Ao) → Ao → (List Ae) → Int → Option (PR (Ao × (List Ae)) Int)
 | 0, _, _, _, _, _, _, _, _, _ => none
 | k + 1, m, a, b, c, d, e, f, h, n => ((Im N (F4 N k) m a b c d e n N 0 h f.f_Kids).bind fun v => match v with | .out (g, i) => ((gc_end N g).bind fun v => match v with | .val _ => some (.val ((Ao.mk f.f_Op f.f_W f.f_A f.f_B i), g)) | .pan j => some (.pan j)) | .ret l => some l)

def gr_terms (n : Nat) (g : TRd) (a : ByteArray) (b : ByteArray) (c : (List Da)) (d : (List B5)) (e : (List Ao)) (h : Ao) (f : (List Ae)) (i : Int) : Option ((PR (Ao × (List Ae)) Int)) := F4 n n g a b c d e h f i

def Iz (N : Nat) (rec : TRd → ByteArray → ByteArray → (List Da) → (List B5) → (List Ao) → Ae → Option (PR Ao Int)) (s : TRd) (a : ByteArray) (b : ByteArray) (c : (List Da)) (d : (List B5)) (e : (List Ao)) : Nat → (List Ae) → (List Ao) → Option (LR (List Ao) (PR Ao Int))
 | 0, _, _ => none
 | m + 1, f, g => ((H8 N f).bind fun h => (cond h (((((Fh N f 0).bind fun v => match v with | .val (i, j) => ((rec s a b c d e i).bind fun v => match v with | .val k => ((appL 56 g ([k] : List Ao)).bind fun l => some (.out (j, l))) | .pan n => some (.ret (.pan n))) | .pan o => some (.ret (.pan o))) : Option (LR ((List Ae) × (List Ao)) (PR Ao Int))).bind fun v => match v with | .out (p, q) => Iz N rec s a b c d e m p q | .ret r => some (.ret r))) (some (.out g))))

def Fe (N : Nat) : Nat → TRd → ByteArray → ByteArray → (List Da) → (List B5) → (List Ao) → Ae → Option (PR Ao Int)
 | 0, _, _, _, _, _, _, _ => none
 | k + 1, g, a, b, c, d, e, az => ((Ej N az).bind fun v => match v with | .val av => ((Db N av.f_rest).bind fun v => match v with | .val (h, i) => (cond (decide (h = (ByteArray.mk #[115, 101, 116]))) (((Fh N i 0).bind fun v => match v with | .val (aw, ax) => ((Ej N aw).bind fun v => match v with | .val ay => ((Db N ay.f_rest).bind fun v => match v with | .val (j, l) => (((cond (decide (j = (ByteArray.mk #[102, 108, 97, 103]))) (((gr_flag N g a b c d e l).bind fun v => match v with | .val (m, n) => ((gc_end N n).bind fun v => match v with | .val _ => some (.out (32, 0, m, 0, ([] : List Ao))) | .pan o => some (.ret (.pan o))) | .pan p => some (.ret (.pan p)))) (((Ek N g.f_Desc.f_Files j).bind fun v => match v with | .val q => ((gr_register N g a b c d e 31 q l).bind fun v => match v with | .val (f, b0) => some (.out (f.f_Op, f.f_W, f.f_A, f.f_B, f.f_Kids)) | .pan r => some (.ret (.pan r))) | .pan s => some (.ret (.pan s))))) : Option (LR (Int × Int × Int × Int × (List Ao)) (PR Ao Int))).bind fun v => match v with | .out (t, u, w, x, y) => ((gr_terms N g a b c d e (Ao.mk t u w x y) ax 1).bind fun v => match v with | .val (z, b1) => some (.val z) | .pan a0 => some (.pan a0)) | .ret a1 => some a1) | .pan a2 => some (.pan a2)) | .pan a3 => some (.pan a3)) | .pan a4 => some (.pan a4))) ((cond (decide (h = (ByteArray.mk #[115, 116]))) (((Fi N i).bind fun v => match v with | .val (a5, a6) => ((gr_terms N g a b c d e (Ao.mk 33 a5 0 0 ([] : List Ao)) a6 2).bind fun v => match v with | .val (a7, b2) => some (.val a7) | .pan a8 => some (.pan a8)) | .pan a9 => some (.pan a9))) ((cond (decide (h = (ByteArray.mk #[106, 117, 109, 112]))) (((gr_terms N g a b c d e (Ao.mk 34 0 0 0 ([] : List Ao)) i 1).bind fun v => match v with | .val (aa, b3) => some (.val aa) | .pan ab => some (.pan ab))) ((cond (decide (h = (ByteArray.mk #[116, 114, 97, 112]))) (((Fi N i).bind fun v => match v with | .val (ac, ad) => ((gr_terms N g a b c d e (Ao.mk 35 0 ac 0 ([] : List Ao)) ad 0).bind fun v => match v with | .val (ae, b4) => some (.val ae) | .pan af => some (.pan af)) | .pan ag => some (.pan ag))) ((cond (decide (h = (ByteArray.mk #[115, 121, 115]))) (((gr_terms N g a b c d e (Ao.mk 36 0 0 0 ([] : List Ao)) i 0).bind fun v => match v with | .val (ah, b5) => some (.val ah) | .pan ai => some (.pan ai))) ((cond (decide (h = (ByteArray.mk #[119, 104, 101, 110]))) (((Fh N i 0).bind fun v => match v with | .val (aj, ak) => ((gr_term N (gr_terms N) g a b c d e aj).bind fun v => match v with | .val al => ((Iz N (Fe N k) g a b c d e N ak ([al] : List Ao)).bind fun v => match v with | .out am => some (.val (Ao.mk 37 0 0 0 am)) | .ret an => some an) | .pan ao => some (.pan ao)) | .pan ap => some (.pan ap))) (((Ay N false 41).bind fun v => match v with | .val _ => some (.val (Ao.mk 0 0 0 0 ([] : List Ao))) | .pan aq => some (.pan aq)))))))))))))) | .pan ar => some (.pan ar)) | .pan au => some (.pan au))

def gr_effect (n : Nat) (f : TRd) (a : ByteArray) (b : ByteArray) (c : (List Da)) (d : (List B5)) (e : (List Ao)) (g : Ae) : Option ((PR Ao Int)) := Fe n n f a b c d e g

def Jl (f : Nat) (e : Nat) (b : ByteArray) (c : ByteArray) (g : A) (h : A) (i : A) (a : (List A)) (R : List Res) (r : (PR Ao Int)) : Out → St → Prop := match r with | .val r => OutV (fun x s => ∃ (d : A), x = (.agg [(vI r.f_Op), (vI r.f_W), (vI r.f_A), (vI r.f_B), d]) ∧ Sl Cm d r.f_Kids ∧ Hp s (.blk f (.cells a 62) :: .blk e (.cells [(vS b), (vS c), g, h, i] 50) :: .app d 52 :: ap a 2 72 :: ap a 3 74 :: ap a 4 9 :: ap a 5 78 :: ap a 6 50 :: ap a 7 82 :: ap a 8 119 :: ap a 9 123 :: ap a 10 115 :: ap a 11 127 :: ap a 12 74 :: .app g 130 :: .app h 132 :: .app i 52 :: R)) | .pan p => OutP (.ifc 24 (vI p)) R

def gisadl_relName (n : Nat) (a : Eq) : Option (ByteArray) := some a.f_Name

def gisadl_relName_post (R : List Res) (r : ByteArray) (x : A) (s : St) : Prop := x = (vS r) ∧ Hp s R

def I0 (n : Nat) (c : Eq) (a : ByteArray) : Option (Bool) := ((((gisadl_relName n c).bind fun b => some (decide (b = a))) : Option (Bool)).bind fun d => some d)

def gisadl_place_1_172_126_post (b : Nat) (c : Nat) (a : ByteArray) (R : List Res) (r : Bool) (x : A) (s : St) : Prop := x = (vB r) ∧ Hp s (.blk b (.cells [(.fn (.func 126) [] [])] 184) :: .blk c (.cells [(vS a)] 9) :: R)

def Bv (N : Nat) (c : (List Eq)) (a : ByteArray) : Nat → Int → Option (LR Unit Int)
 | 0, _ => none
 | m + 1, b => (cond (decide (b < ((c.length : Nat) : Int))) (((atL c b).bind fun d => ((I0 N d a).bind fun e => (cond e (some (.ret b)) (Bv N c a m (IntKind.wrap .i64 (b + 1))))))) (some (.out ())))

def Dr (n : Nat) (c : (List Eq)) (a : ByteArray) : Option (Int) := ((Bv n c a n 0).bind fun v => match v with | .out _ => some (-1) | .ret b => some b)

def Hh (b : Nat) (c : Nat) (a : ByteArray) (R : List Res) (r : Int) (x : A) (s : St) : Prop := x = (vI r) ∧ Hp s (.blk b (.cells [(.fn (.func 126) [] [])] 184) :: .blk c (.cells [(vS a)] 9) :: R)

def Gc (n : Nat) (c : (List Eq)) (d : ByteArray) : Option ((PR Int Int)) := ((Dr n c d).bind fun a => ((Ay n (decide (a ≥ 0)) 42).bind fun v => match v with | .val _ => some (.val a) | .pan b => some (.pan b)))

def gisadl_place_129_126_post (R : List Res) (r : (PR Int Int)) : Out → St → Prop := match r with | .val r => OutV (fun x s => x = (vI r) ∧ Hp s R) | .pan p => OutP (.ifc 24 (vI p)) R

def I1 (n : Nat) (c : Eq) (a : ByteArray) : Option (Bool) := ((((gisadl_relName n c).bind fun b => some (decide (b = a))) : Option (Bool)).bind fun d => some d)

def gisadl_fresh_1_170_126_post (b : Nat) (c : Nat) (a : ByteArray) (R : List Res) (r : Bool) (x : A) (s : St) : Prop := x = (vB r) ∧ Hp s (.blk b (.cells [(.fn (.func 126) [] [])] 184) :: .blk c (.cells [(vS a)] 9) :: R)

def Bw (N : Nat) (c : (List Eq)) (a : ByteArray) : Nat → Int → Option (LR Unit Int)
 | 0, _ => none
 | m + 1, b => (cond (decide (b < ((c.length : Nat) : Int))) (((atL c b).bind fun d => ((I1 N d a).bind fun e => (cond e (some (.ret b)) (Bw N c a m (IntKind.wrap .i64 (b + 1))))))) (some (.out ())))

def Ds (n : Nat) (c : (List Eq)) (a : ByteArray) : Option (Int) := ((Bw n c a n 0).bind fun v => match v with | .out _ => some (-1) | .ret b => some b)

def Hi (b : Nat) (c : Nat) (a : ByteArray) (R : List Res) (r : Int) (x : A) (s : St) : Prop := x = (vI r) ∧ Hp s (.blk b (.cells [(.fn (.func 126) [] [])] 184) :: .blk c (.cells [(vS a)] 9) :: R)

def C4 (n : Nat) (b : (List Eq)) (a : ByteArray) : Option (Bool) := ((Ds n b a).bind fun c => some (decide (c ≥ 0)))

def Jy (b : Nat) (c : Nat) (a : ByteArray) (R : List Res) (r : Bool) (x : A) (s : St) : Prop := x = (vB r) ∧ Hp s (.blk b (.cells [(.fn (.func 126) [] [])] 184) :: .blk c (.cells [(vS a)] 9) :: R)

def Gd (n : Nat) (a : (List Eq)) (b : ByteArray) (e : Int) : Option ((PR ByteArray Int)) := ((C4 n a b).bind fun f => ((Ay n (!f) 42).bind fun v => match v with | .val _ => ((Ay n (decide (((a.length : Nat) : Int) < e)) 43).bind fun v => match v with | .val _ => some (.val b) | .pan c => some (.pan c)) | .pan d => some (.pan d)))

def gisadl_fresh_125_126_post (R : List Res) (r : (PR ByteArray Int)) : Out → St → Prop := match r with | .val r => OutV (fun x s => x = (vS r) ∧ Hp s R) | .pan p => OutP (.ifc 24 (vI p)) R

def Ge (N : Nat) (rec : Ae → Option (PR Ao Int)) (d : Int) : Nat → Int → (List Ae) → (List Ao) → Option (LR ((List Ae) × (List Ao)) (PR Ao Int))
 | 0, _, _, _ => none
 | m + 1, a, b, c => (cond (decide (a < d)) (((((Fh N b 0).bind fun v => match v with | .val (e, f) => ((rec e).bind fun v => match v with | .val g => ((appL 56 c ([g] : List Ao)).bind fun h => some (.out (f, h))) | .pan i => some (.ret (.pan i))) | .pan j => some (.ret (.pan j))) : Option (LR ((List Ae) × (List Ao)) (PR Ao Int))).bind fun v => match v with | .out (k, l) => Ge N rec d m (IntKind.wrap .i64 (a + 1)) k l | .ret n => some (.ret n))) (some (.out (b, c))))

def En (N : Nat) : Nat → Ae → Option (PR Ao Int)
 | 0, _ => none
 | k + 1, a => (cond (a.f_Kind == 2) (some (.val (Ao.mk 20 64 a.f_Num 0 ([] : List Ao)))) ((cond (a.f_Kind == 1) (((Eu N ([(ByteArray.mk #[83]), (ByteArray.mk #[65]), (ByteArray.mk #[80]), (ByteArray.mk #[71]), (ByteArray.mk #[84]), (ByteArray.mk #[]), (ByteArray.mk #[72])] : List ByteArray) a.f_Word).bind fun c => ((Ay N (decide (c ≥ 0)) 41).bind fun v => match v with | .val _ => some (.val (Ao.mk (IntKind.wrap .i64 (38 + c)) 0 0 0 ([] : List Ao))) | .pan l => some (.pan l)))) (((Ej N a).bind fun v => match v with | .val m => ((Db N m.f_rest).bind fun v => match v with | .val (b, n) => (((cond (decide (b = (ByteArray.mk #[97, 100, 100]))) (some (.out (2, 1))) ((cond (decide (b = (ByteArray.mk #[115, 117, 98]))) (some (.out (2, 2))) ((cond (decide (b = (ByteArray.mk #[112, 97, 103, 101]))) (some (.out (1, 43))) (((Ay N false 41).bind fun v => match v with | .val _ => some (.out (2, 0)) | .pan o => some (.ret (.pan o))))))))) : Option (LR (Int × Int) (PR Ao Int))).bind fun v => match v with | .out (p, q) => ((Ge N (En N k) p N 0 n ([] : List Ao)).bind fun v => match v with | .out (d, e) => ((gc_end N d).bind fun v => match v with | .val _ => some (.val (Ao.mk q 0 0 0 e)) | .pan f => some (.pan f)) | .ret g => some g) | .ret h => some h) | .pan i => some (.pan i)) | .pan j => some (.pan j))))))

def gisadl_calc (n : Nat) (a : Ae) : Option ((PR Ao Int)) := En n n a

def Ie (R : List Res) (r : (PR Ao Int)) : Out → St → Prop := match r with | .val r => OutV (fun x s => ∃ (a : A), x = (.agg [(vI r.f_Op), (vI r.f_W), (vI r.f_A), (vI r.f_B), a]) ∧ Sl Cm a r.f_Kids ∧ Hp s (.app a 52 :: R)) | .pan p => OutP (.ifc 24 (vI p)) R

def gisadl_check (n : Nat) (a : Eq) (f : (List Ae)) (a3 : (List (ByteArray × Bool))) : Option ((PR (Eq × (List Ae) × (List (ByteArray × Bool))) Int)) := ((Db n f).bind fun v => match v with | .val (a4, c) => ((Eu n ([(ByteArray.mk #[]), (ByteArray.mk #[115, 105, 103, 110, 101, 100]), (ByteArray.mk #[117, 110, 115, 105, 103, 110, 101, 100]), (ByteArray.mk #[101, 105, 116, 104, 101, 114])] : List ByteArray) a4).bind fun e => (((cond (decide (e > 0)) (some (ByteArray.mk #[115, 105, 103, 110])) (some a4)) : Option (ByteArray)).bind fun b => ((Ay n (!(lookG false a3 b)) 41).bind fun v => match v with | .val _ => (((cond (decide (b = (ByteArray.mk #[115, 105, 103, 110]))) (((Fi n c).bind fun v => match v with | .val (g, h) => some (.out (h, (Eq.mk a.f_Name a.f_Num a.f_Kind a.f_Bytes a.f_Class a.f_Class2 a.f_Calc e g a.f_Align a.f_Round a.f_Hi a.f_Lo))) | .pan i => some (.ret (.pan i)))) ((cond (decide (b = (ByteArray.mk #[97, 108, 105, 103, 110]))) (((Fi n c).bind fun v => match v with | .val (j, k) => some (.out (k, (Eq.mk a.f_Name a.f_Num a.f_Kind a.f_Bytes a.f_Class a.f_Class2 a.f_Calc a.f_Sign a.f_Width j a.f_Round a.f_Hi a.f_Lo))) | .pan l => some (.ret (.pan l)))) ((cond (decide (b = (ByteArray.mk #[114, 111, 117, 110, 100]))) (((Fi n c).bind fun v => match v with | .val (m, o) => some (.out (o, (Eq.mk a.f_Name a.f_Num a.f_Kind a.f_Bytes a.f_Class a.f_Class2 a.f_Calc a.f_Sign a.f_Width a.f_Align m a.f_Hi a.f_Lo))) | .pan p => some (.ret (.pan p)))) ((cond (decide (b = (ByteArray.mk #[115, 108, 105, 99, 101]))) (((Fi n c).bind fun v => match v with | .val (q, r) => ((Fi n r).bind fun v => match v with | .val (s, t) => some (.out (t, (Eq.mk a.f_Name a.f_Num a.f_Kind a.f_Bytes a.f_Class a.f_Class2 a.f_Calc a.f_Sign a.f_Width a.f_Align a.f_Round q s))) | .pan u => some (.ret (.pan u))) | .pan w => some (.ret (.pan w)))) (((Ay n false 41).bind fun v => match v with | .val _ => some (.out (c, a)) | .pan x => some (.ret (.pan x))))))))))) : Option (LR ((List Ae) × Eq) (PR (Eq × (List Ae) × (List (ByteArray × Bool))) Int))).bind fun v => match v with | .out (d, y) => ((gc_end n d).bind fun v => match v with | .val _ => some (.val (y, d, (updG a3 b true))) | .pan z => some (.pan z)) | .ret a0 => some a0) | .pan a1 => some (.pan a1)))) | .pan a2 => some (.pan a2))

def gisadl_check_post (b : Nat) (c : Nat) (bm_p2 : Nat) (R : List Res) (r : (PR (Eq × (List Ae) × (List (ByteArray × Bool))) Int)) : Out → St → Prop := match r with | .val r => OutV (fun x s => ∃ (a : (List A)) (d : A), x = (.tup []) ∧ rTRel.rep r.1 a ∧ Sl A0 d r.2.1 ∧ Hp s (.blk b (.cells a 82) :: .blk c (.cells [d] 167) :: .blk bm_p2 (mapG vB r.2.2) :: ap a 10 52 :: R)) | .pan p => OutP (.ifc 24 (vI p)) R

def Jc (n : Nat) (d : F0) (a : ByteArray) : Option (Bool) := ((((Kd n d).bind fun b => some (decide (b = a))) : Option (Bool)).bind fun c => some c)

def gisadl_place_1_131_83_post (b : Nat) (c : Nat) (a : ByteArray) (R : List Res) (r : Bool) (x : A) (s : St) : Prop := x = (vB r) ∧ Hp s (.blk b (.cells [(.fn (.func 83) [] [])] 149) :: .blk c (.cells [(vS a)] 9) :: R)

def B2 (N : Nat) (c : (List F0)) (a : ByteArray) : Nat → Int → Option (LR Unit Int)
 | 0, _ => none
 | m + 1, b => (cond (decide (b < ((c.length : Nat) : Int))) (((atL c b).bind fun d => ((Jc N d a).bind fun e => (cond e (some (.ret b)) (B2 N c a m (IntKind.wrap .i64 (b + 1))))))) (some (.out ())))

def D0 (n : Nat) (c : (List F0)) (a : ByteArray) : Option (Int) := ((B2 n c a n 0).bind fun v => match v with | .out _ => some (-1) | .ret b => some b)

def Ht (b : Nat) (c : Nat) (a : ByteArray) (R : List Res) (r : Int) (x : A) (s : St) : Prop := x = (vI r) ∧ Hp s (.blk b (.cells [(.fn (.func 83) [] [])] 149) :: .blk c (.cells [(vS a)] 9) :: R)

def Hj (n : Nat) (c : (List F0)) (d : ByteArray) : Option ((PR Int Int)) := ((D0 n c d).bind fun a => ((Ay n (decide (a ≥ 0)) 42).bind fun v => match v with | .val _ => some (.val a) | .pan b => some (.pan b)))

def gisadl_place_82_83_post (R : List Res) (r : (PR Int Int)) : Out → St → Prop := match r with | .val r => OutV (fun x s => x = (vI r) ∧ Hp s R) | .pan p => OutP (.ifc 24 (vI p)) R

def gisadl_numName (n : Nat) (a : Fx) : Option (ByteArray) := some a.f_Name

def gisadl_numName_post (R : List Res) (r : ByteArray) (x : A) (s : St) : Prop := x = (vS r) ∧ Hp s R

def Jd (n : Nat) (b : Fx) (a : ByteArray) : Option (Bool) := ((((gisadl_numName n b).bind fun c => some (decide (c = a))) : Option (Bool)).bind fun d => some d)

def gisadl_fresh_1_133_85_post (b : Nat) (c : Nat) (a : ByteArray) (R : List Res) (r : Bool) (x : A) (s : St) : Prop := x = (vB r) ∧ Hp s (.blk b (.cells [(.fn (.func 85) [] [])] 151) :: .blk c (.cells [(vS a)] 9) :: R)

def B3 (N : Nat) (c : (List Fx)) (a : ByteArray) : Nat → Int → Option (LR Unit Int)
 | 0, _ => none
 | m + 1, b => (cond (decide (b < ((c.length : Nat) : Int))) (((atL c b).bind fun d => ((Jd N d a).bind fun e => (cond e (some (.ret b)) (B3 N c a m (IntKind.wrap .i64 (b + 1))))))) (some (.out ())))

def D1 (n : Nat) (c : (List Fx)) (a : ByteArray) : Option (Int) := ((B3 n c a n 0).bind fun v => match v with | .out _ => some (-1) | .ret b => some b)

def Hu (b : Nat) (c : Nat) (a : ByteArray) (R : List Res) (r : Int) (x : A) (s : St) : Prop := x = (vI r) ∧ Hp s (.blk b (.cells [(.fn (.func 85) [] [])] 151) :: .blk c (.cells [(vS a)] 9) :: R)

def C9 (n : Nat) (b : (List Fx)) (a : ByteArray) : Option (Bool) := ((D1 n b a).bind fun c => some (decide (c ≥ 0)))

def J3 (b : Nat) (c : Nat) (a : ByteArray) (R : List Res) (r : Bool) (x : A) (s : St) : Prop := x = (vB r) ∧ Hp s (.blk b (.cells [(.fn (.func 85) [] [])] 151) :: .blk c (.cells [(vS a)] 9) :: R)

def Hk (n : Nat) (a : (List Fx)) (b : ByteArray) (e : Int) : Option ((PR ByteArray Int)) := ((C9 n a b).bind fun f => ((Ay n (!f) 42).bind fun v => match v with | .val _ => ((Ay n (decide (((a.length : Nat) : Int) < e)) 43).bind fun v => match v with | .val _ => some (.val b) | .pan c => some (.pan c)) | .pan d => some (.pan d)))

def gisadl_fresh_84_85_post (R : List Res) (r : (PR ByteArray Int)) : Out → St → Prop := match r with | .val r => OutV (fun x s => x = (vS r) ∧ Hp s R) | .pan p => OutP (.ifc 24 (vI p)) R

def gr_tried_1_fin (n : Nat) (a : Int) : Option Unit := ((some () : Option (Unit)).bind fun _ => some ())

def gr_tried_1_pan (n : Nat) (a : Int) (pp : Int) : Option Int := ((some pp : Option (Int)).bind fun b => some b)

def I5 (n : Nat) (a : TRd) (d : (List Ae)) : Option ((PR (TRd × (List Ae)) Int)) := ((Db n d).bind fun v => match v with | .val (b, o) => ((fieldsT (ByteArray.mk #[97, 100, 100, 32, 115, 117, 98, 32, 109, 117, 108, 32, 97, 110, 100, 32, 111, 114, 32, 120, 111, 114, 32, 115, 104, 108, 32, 115, 104, 114, 32, 115, 97, 114, 32, 100, 105, 118, 117, 32, 114, 101, 109, 117, 32, 100, 105, 118, 115, 32, 114, 101, 109, 115, 32, 101, 113, 32, 108, 116, 117, 32, 108, 116, 115, 32, 99, 97, 116, 32, 110, 111, 116, 32, 110, 101, 103, 32, 99, 32, 105, 109, 109, 32, 102, 108, 97, 103, 32, 108, 100, 32, 105, 102, 32, 115, 120, 32, 122, 120, 32, 101, 120, 32, 115, 101, 116, 32, 115, 116, 32, 106, 117, 109, 112, 32, 116, 114, 97, 112, 32, 115, 121, 115, 32, 119, 104, 101, 110])).bind fun p => ((Fb n p b).bind fun q => ((Ay n (!q) 42).bind fun v => match v with | .val _ => ((F9 n a.f_Desc.f_Files b 8).bind fun v => match v with | .val r => ((Fi n o).bind fun v => match v with | .val (s, t) => ((Fi n t).bind fun v => match v with | .val (u, w) => ((gc_is n w (ByteArray.mk #[122, 101, 114, 111])).bind fun v => match v with | (x, c) => (((cond x (((Fi n c).bind fun v => match v with | .val (y, z) => some (.out (y, z)) | .pan e => some (.ret (.pan e)))) (some (.out ((-1), c)))) : Option (LR (Int × (List Ae)) (PR (TRd × (List Ae)) Int))).bind fun v => match v with | .out (a0, a1) => ((((appL 40 a.f_Desc.f_Files ([(Fz.mk r s u a0)] : List Fz)).bind fun f => some (TRd.mk (H2.mk a.f_Desc.f_Name a.f_Desc.f_Order f a.f_Desc.f_Aliases a.f_Desc.f_Flags a.f_Desc.f_Classes a.f_Desc.f_Forms a.f_Desc.f_Rels a.f_Desc.f_Uses a.f_Desc.f_Relaxes a.f_Desc.f_Macros a.f_Desc.f_Nums a.f_Desc.f_Regs))) : Option (TRd)).bind fun g => some (.val (g, a1))) | .ret h => some h)) | .pan i => some (.pan i)) | .pan j => some (.pan j)) | .pan k => some (.pan k)) | .pan l => some (.pan l)))) | .pan m => some (.pan m))

def gr_readFile_f69_post (b : Nat) (c : Nat) (e : A) (R : List Res) (r : (PR (TRd × (List Ae)) Int)) : Out → St → Prop := match r with | .val r => OutV (fun x s => ∃ (a : (List A)) (d : A), x = (.tup []) ∧ E2 e r.1 a ∧ Sl A0 d r.2 ∧ Hp s (.blk b (.cells a 62) :: .blk c (.cells [d] 167) :: ap a 2 72 :: ap a 3 74 :: ap a 4 9 :: ap a 5 78 :: ap a 6 50 :: ap a 7 82 :: ap a 8 119 :: ap a 9 123 :: ap a 10 115 :: ap a 11 127 :: ap a 12 74 :: R)) | .pan p => OutP (.ifc 24 (vI p)) R

def Jm (n : Nat) (j : TRd) (a : (List Ae)) : Option ((PR (Int × (List Ae)) Int)) := ((((Db n a).bind fun v => match v with | .val (c, d) => ((Ek n j.f_Desc.f_Files c).bind fun v => match v with | .val e => some (.out (e, d)) | .pan f => some (.ret (.pan f))) | .pan g => some (.ret (.pan g))) : Option (LR (Int × (List Ae)) (PR (Int × (List Ae)) Int))).bind fun v => match v with | .out (h, i) => some (.val (h, i)) | .ret b => some b)

def gr_file_f72_post (b : Nat) (c : Nat) (a : (List A)) (R : List Res) (r : (PR (Int × (List Ae)) Int)) : Out → St → Prop := match r with | .val r => OutV (fun x s => ∃ (d : A), x = (vI r.1) ∧ Sl A0 d r.2 ∧ Hp s (.blk b (.cells a 62) :: .blk c (.cells [d] 167) :: ap a 2 72 :: ap a 3 74 :: ap a 4 9 :: ap a 5 78 :: ap a 6 50 :: ap a 7 82 :: ap a 8 119 :: ap a 9 123 :: ap a 10 115 :: ap a 11 127 :: ap a 12 74 :: R)) | .pan p => OutP (.ifc 24 (vI p)) R

def Es (N : Nat) : Nat → (List Ae) → (List Int) → Option (LR ((List Int) × (List Ae)) (PR (TRd × (List Ae)) Int))
 | 0, _, _ => none
 | m + 1, a, b => ((H8 N a).bind fun c => (cond c (((Fh N a 2).bind fun v => match v with | .val (d, e) => ((Ay N (decide (((b.length : Nat) : Int) < 8)) 43).bind fun v => match v with | .val _ => ((appL 8 b ([d.f_Num] : List Int)).bind fun f => Es N m e f) | .pan g => some (.ret (.pan g))) | .pan h => some (.ret (.pan h)))) (some (.out (b, a)))))

def Ig (n : Nat) (a : TRd) (l : (List Ae)) : Option ((PR (TRd × (List Ae)) Int)) := ((((Db n l).bind fun v => match v with | .val (au, av) => ((Ga n a.f_Desc.f_Classes au 64).bind fun v => match v with | .val m => some (.out (av, m, 0, 0, 0, 0, 0, ([] : List Int))) | .pan o => some (.ret (.pan o))) | .pan p => some (.ret (.pan p))) : Option (LR ((List Ae) × ByteArray × Int × Int × Int × Int × Int × (List Int)) (PR (TRd × (List Ae)) Int))).bind fun v => match v with | .out (aw, ax, ay, d, b1, az, b0, k) => ((Db n aw).bind fun v => match v with | .val (c, b) => (((cond (decide (c = (ByteArray.mk #[114, 101, 103]))) (((Jm n a b).bind fun v => match v with | .val (q, r) => some (.out (r, 1, q)) | .pan s => some (.ret (.pan s)))) ((cond (decide (c = (ByteArray.mk #[117, 110, 115]))) (some (.out (b, 2, d))) ((cond (decide (c = (ByteArray.mk #[115, 103, 110]))) (some (.out (b, 3, d))) ((cond (decide (c = (ByteArray.mk #[112, 99]))) (some (.out (b, 4, d))) ((cond (decide (c = (ByteArray.mk #[110, 120]))) (some (.out (b, 5, d))) (((Ay n false 41).bind fun v => match v with | .val _ => some (.out (b, ay, d)) | .pan t => some (.ret (.pan t))))))))))))) : Option (LR ((List Ae) × Int × Int) (PR (TRd × (List Ae)) Int))).bind fun v => match v with | .out (u, e, w) => ((Fi n u).bind fun v => match v with | .val (x, f) => (((cond (e == 1) (((gc_is n f (ByteArray.mk #[112, 108, 117, 115])).bind fun v => match v with | (y, z) => some (y, z))) (some (false, f))) : Option ((Bool × (List Ae)))).bind fun v => match v with | (a0, g) => (((cond a0 (((Fi n g).bind fun v => match v with | .val (a1, a2) => some (.out (a2, a1)) | .pan a3 => some (.ret (.pan a3)))) (some (.out (g, b0)))) : Option (LR ((List Ae) × Int) (PR (TRd × (List Ae)) Int))).bind fun v => match v with | .out (h, a4) => (((cond (e != 1) (((gc_is n h (ByteArray.mk #[115, 104, 105, 102, 116])).bind fun v => match v with | (a5, a6) => some (a5, a6))) (some (false, h))) : Option ((Bool × (List Ae)))).bind fun v => match v with | (a7, i) => (((cond a7 (((Fi n i).bind fun v => match v with | .val (a8, a9) => some (.out (a9, a8)) | .pan aa => some (.ret (.pan aa)))) (some (.out (i, az)))) : Option (LR ((List Ae) × Int) (PR (TRd × (List Ae)) Int))).bind fun v => match v with | .out (ab, ac) => ((gc_is n ab (ByteArray.mk #[101, 120, 99, 101, 112, 116])).bind fun v => match v with | (ad, j) => (((cond ad (((Es n n j k).bind fun v => match v with | .out (ae, af) => some (.out (ae, af)) | .ret ag => some (.ret ag))) (some (.out (k, j)))) : Option (LR ((List Int) × (List Ae)) (PR (TRd × (List Ae)) Int))).bind fun v => match v with | .out (ah, ai) => ((((appL 80 a.f_Desc.f_Classes ([(Ee.mk ax e w x ac a4 ah)] : List Ee)).bind fun aj => some (TRd.mk (H2.mk a.f_Desc.f_Name a.f_Desc.f_Order a.f_Desc.f_Files a.f_Desc.f_Aliases a.f_Desc.f_Flags aj a.f_Desc.f_Forms a.f_Desc.f_Rels a.f_Desc.f_Uses a.f_Desc.f_Relaxes a.f_Desc.f_Macros a.f_Desc.f_Nums a.f_Desc.f_Regs))) : Option (TRd)).bind fun ak => some (.val (ak, ai))) | .ret al => some al)) | .ret am => some am)) | .ret an => some an)) | .pan ao => some (.pan ao)) | .ret ap => some ap) | .pan aq => some (.pan aq)) | .ret ar => some ar)

def D6 (b : Nat) (c : Nat) (e : A) (R : List Res) (r : (PR (TRd × (List Ae)) Int)) : Out → St → Prop := match r with | .val r => OutV (fun x s => ∃ (a : (List A)) (d : A), x = (.tup []) ∧ E2 e r.1 a ∧ Sl A0 d r.2 ∧ Hp s (.blk b (.cells a 62) :: .blk c (.cells [d] 167) :: ap a 2 72 :: ap a 3 74 :: ap a 4 9 :: ap a 5 78 :: ap a 6 50 :: ap a 7 82 :: ap a 8 119 :: ap a 9 123 :: ap a 10 115 :: ap a 11 127 :: ap a 12 74 :: R)) | .pan p => OutP (.ifc 24 (vI p)) R

def E5 (N : Nat) (a4 : TRd) (c : ByteArray) (d : ByteArray) (e : (List B5)) (f : (List Ao)) : Nat → (List Da) → (List Ae) → Option (LR (List Da) (PR (TRd × (List Ae)) Int))
 | 0, _, _ => none
 | m + 1, a, b => ((H8 N b).bind fun g => (cond g (((Fh N b 0).bind fun v => match v with | .val (h, i) => ((Ej N h).bind fun v => match v with | .val j => ((((Db N j.f_rest).bind fun v => match v with | .val (k, l) => ((Gb N a k 6).bind fun v => match v with | .val n => some (.out (n, l)) | .pan o => some (.ret (.pan o))) | .pan p => some (.ret (.pan p))) : Option (LR (ByteArray × (List Ae)) (PR (TRd × (List Ae)) Int))).bind fun v => match v with | .out (q, r) => ((((gr_class N a4 c d a e f r).bind fun v => match v with | .val (s, t) => ((appL 24 a ([(Da.mk q s)] : List Da)).bind fun u => some (.out (u, t))) | .pan w => some (.ret (.pan w))) : Option (LR ((List Da) × (List Ae)) (PR (TRd × (List Ae)) Int))).bind fun v => match v with | .out (x, y) => ((gc_end N y).bind fun v => match v with | .val _ => E5 N a4 c d e f m x i | .pan z => some (.ret (.pan z))) | .ret a0 => some (.ret a0)) | .ret a1 => some (.ret a1)) | .pan a2 => some (.ret (.pan a2))) | .pan a3 => some (.ret (.pan a3)))) (some (.out a))))

def E6 (N : Nat) (p : TRd) (d : ByteArray) (e : ByteArray) (f : (List Ao)) (b : (List Da)) : Nat → (List B5) → (List Ae) → Option (LR (List B5) (PR (TRd × (List Ae)) Int))
 | 0, _, _ => none
 | m + 1, a, c => ((H8 N c).bind fun g => (cond g (((Db N c).bind fun v => match v with | .val (h, i) => ((gr_piece N p d e b a f h).bind fun v => match v with | .val j => ((Ay N (decide (((a.length : Nat) : Int) < 64)) 43).bind fun v => match v with | .val _ => ((appL 40 a ([j] : List B5)).bind fun k => E6 N p d e f b m k i) | .pan l => some (.ret (.pan l))) | .pan n => some (.ret (.pan n))) | .pan o => some (.ret (.pan o)))) (some (.out a))))

def E7 (N : Nat) (q : TRd) (j : ByteArray) (k : ByteArray) (b : (List Da)) (c : (List B5)) : Nat → (List Ao) → (List Ae) → Option (LR (List Ao) (PR (TRd × (List Ae)) Int))
 | 0, _, _ => none
 | m + 1, a, d => ((H8 N d).bind fun l => (cond l (((Fh N d 0).bind fun v => match v with | .val (n, o) => ((gr_effect N q j k b c a n).bind fun v => match v with | .val p => ((Ay N (decide (((a.length : Nat) : Int) < 64)) 43).bind fun v => match v with | .val _ => ((((appL 56 a ([p] : List Ao)).bind fun e => some e) : Option ((List Ao))).bind fun f => E7 N q j k b c m f o) | .pan g => some (.ret (.pan g))) | .pan h => some (.ret (.pan h))) | .pan i => some (.ret (.pan i)))) (some (.out a))))

def I6 (n : Nat) (a : TRd) (u : (List Ae)) : Option ((PR (TRd × (List Ae)) Int)) := ((((Db n u).bind fun v => match v with | .val (w, x) => ((Gn n a.f_Desc.f_Forms w 512).bind fun v => match v with | .val y => ((gc_text n x).bind fun v => match v with | .val (z, a0) => some (.out (a0, y, z, ([] : List Da), ([] : List B5), ([] : List Ao))) | .pan a1 => some (.ret (.pan a1))) | .pan a2 => some (.ret (.pan a2))) | .pan a3 => some (.ret (.pan a3))) : Option (LR ((List Ae) × ByteArray × ByteArray × (List Da) × (List B5) × (List Ao)) (PR (TRd × (List Ae)) Int))).bind fun v => match v with | .out (ae, c, d, af, t, e) => ((Fh n ae 0).bind fun v => match v with | .val (a4, a5) => ((Ej n a4).bind fun v => match v with | .val a6 => ((E5 n a c d t e n af a6.f_rest).bind fun v => match v with | .out b => ((Fh n a5 0).bind fun v => match v with | .val (a7, a8) => ((Ej n a7).bind fun v => match v with | .val a9 => ((E6 n a c d e b n t a9.f_rest).bind fun v => match v with | .out f => ((Fh n a8 0).bind fun v => match v with | .val (aa, ab) => ((Ej n aa).bind fun v => match v with | .val ac => ((E7 n a c d b f n e ac.f_rest).bind fun v => match v with | .out ad => ((((appL 104 a.f_Desc.f_Forms ([(F0.mk c d b f ad)] : List F0)).bind fun g => some (TRd.mk (H2.mk a.f_Desc.f_Name a.f_Desc.f_Order a.f_Desc.f_Files a.f_Desc.f_Aliases a.f_Desc.f_Flags a.f_Desc.f_Classes g a.f_Desc.f_Rels a.f_Desc.f_Uses a.f_Desc.f_Relaxes a.f_Desc.f_Macros a.f_Desc.f_Nums a.f_Desc.f_Regs))) : Option (TRd)).bind fun h => some (.val (h, ab))) | .ret i => some i) | .pan j => some (.pan j)) | .pan k => some (.pan k)) | .ret l => some l) | .pan m => some (.pan m)) | .pan o => some (.pan o)) | .ret p => some p) | .pan q => some (.pan q)) | .pan r => some (.pan r)) | .ret s => some s)

def Em (c : Nat) (d : Nat) (R : List Res) (r : (PR (TRd × (List Ae)) Int)) : Out → St → Prop := match r with | .val r => OutV (fun x s => ∃ (e : A) (a : (List A)) (b : A), x = (.tup []) ∧ isOne e = true ∧ E2 e r.1 a ∧ Sl A0 b r.2 ∧ Hp s (.blk c (.cells a 62) :: .blk d (.cells [b] 167) :: ap a 2 72 :: ap a 3 74 :: ap a 4 9 :: ap a 5 78 :: ap a 6 50 :: ap a 7 82 :: ap a 8 119 :: ap a 9 123 :: ap a 10 115 :: ap a 11 127 :: ap a 12 74 :: R)) | .pan p => OutP (.ifc 24 (vI p)) R

def Jn (n : Nat) (j : TRd) (a : (List Ae)) : Option ((PR (Int × (List Ae)) Int)) := ((((Db n a).bind fun v => match v with | .val (c, d) => ((Gc n j.f_Desc.f_Rels c).bind fun v => match v with | .val e => some (.out (e, d)) | .pan f => some (.ret (.pan f))) | .pan g => some (.ret (.pan g))) : Option (LR (Int × (List Ae)) (PR (Int × (List Ae)) Int))).bind fun v => match v with | .out (h, i) => some (.val (h, i)) | .ret b => some b)

def gr_rel_f81_post (b : Nat) (c : Nat) (a : (List A)) (R : List Res) (r : (PR (Int × (List Ae)) Int)) : Out → St → Prop := match r with | .val r => OutV (fun x s => ∃ (d : A), x = (vI r.1) ∧ Sl A0 d r.2 ∧ Hp s (.blk b (.cells a 62) :: .blk c (.cells [d] 167) :: ap a 2 72 :: ap a 3 74 :: ap a 4 9 :: ap a 5 78 :: ap a 6 50 :: ap a 7 82 :: ap a 8 119 :: ap a 9 123 :: ap a 10 115 :: ap a 11 127 :: ap a 12 74 :: R)) | .pan p => OutP (.ifc 24 (vI p)) R

def Et (N : Nat) : Nat → (List ByteArray) → (List Ae) → Option (LR (List ByteArray) (PR (TRd × (List Ae)) Int))
 | 0, _, _ => none
 | m + 1, a, b => ((H8 N b).bind fun c => (cond c (((gc_text N b).bind fun v => match v with | .val (d, e) => ((Ay N (decide (((a.length : Nat) : Int) < 8)) 43).bind fun v => match v with | .val _ => ((appL 16 a ([d] : List ByteArray)).bind fun f => Et N m f e) | .pan g => some (.ret (.pan g))) | .pan h => some (.ret (.pan h)))) (some (.out a))))

def Ih (n : Nat) (a : TRd) (c : (List Ae)) : Option ((PR (TRd × (List Ae)) Int)) := ((Ay n (decide (((a.f_Desc.f_Macros.length : Nat) : Int) < 32)) 43).bind fun v => match v with | .val _ => ((gc_text n c).bind fun v => match v with | .val (m, o) => ((gc_is n o (ByteArray.mk #[110, 111, 110, 101])).bind fun v => match v with | (p, b) => (((cond (!p) (((Jn n a b).bind fun v => match v with | .val (q, r) => some (.out (r, q)) | .pan s => some (.ret (.pan s)))) (some (.out (b, (-1))))) : Option (LR ((List Ae) × Int) (PR (TRd × (List Ae)) Int))).bind fun v => match v with | .out (t, u) => ((Fh n t 0).bind fun v => match v with | .val (w, x) => ((Ej n w).bind fun v => match v with | .val y => ((Et n n ([] : List ByteArray) y.f_rest).bind fun v => match v with | .out d => ((((appL 48 a.f_Desc.f_Macros ([(TMacro.mk m u d)] : List TMacro)).bind fun e => some (TRd.mk (H2.mk a.f_Desc.f_Name a.f_Desc.f_Order a.f_Desc.f_Files a.f_Desc.f_Aliases a.f_Desc.f_Flags a.f_Desc.f_Classes a.f_Desc.f_Forms a.f_Desc.f_Rels a.f_Desc.f_Uses a.f_Desc.f_Relaxes e a.f_Desc.f_Nums a.f_Desc.f_Regs))) : Option (TRd)).bind fun f => some (.val (f, x))) | .ret g => some g) | .pan h => some (.pan h)) | .pan i => some (.pan i)) | .ret j => some j)) | .pan k => some (.pan k)) | .pan l => some (.pan l))

def Je (b : Nat) (c : Nat) (e : A) (R : List Res) (r : (PR (TRd × (List Ae)) Int)) : Out → St → Prop := match r with | .val r => OutV (fun x s => ∃ (a : (List A)) (d : A), x = (.tup []) ∧ E2 e r.1 a ∧ Sl A0 d r.2 ∧ Hp s (.blk b (.cells a 62) :: .blk c (.cells [d] 167) :: ap a 2 72 :: ap a 3 74 :: ap a 4 9 :: ap a 5 78 :: ap a 6 50 :: ap a 7 82 :: ap a 8 119 :: ap a 9 123 :: ap a 10 115 :: ap a 11 127 :: ap a 12 74 :: R)) | .pan p => OutP (.ifc 24 (vI p)) R

def G0 (n : Nat) (j : TRd) (a : (List Ae)) : Option ((PR (Int × (List Ae)) Int)) := ((((Db n a).bind fun v => match v with | .val (c, d) => ((Fc n j.f_Desc.f_Classes c).bind fun v => match v with | .val e => some (.out (e, d)) | .pan f => some (.ret (.pan f))) | .pan g => some (.ret (.pan g))) : Option (LR (Int × (List Ae)) (PR (Int × (List Ae)) Int))).bind fun v => match v with | .out (h, i) => some (.val (h, i)) | .ret b => some b)

def gr_class_f122_post (b : Nat) (c : Nat) (a : (List A)) (R : List Res) (r : (PR (Int × (List Ae)) Int)) : Out → St → Prop := match r with | .val r => OutV (fun x s => ∃ (d : A), x = (vI r.1) ∧ Sl A0 d r.2 ∧ Hp s (.blk b (.cells a 62) :: .blk c (.cells [d] 167) :: ap a 2 72 :: ap a 3 74 :: ap a 4 9 :: ap a 5 78 :: ap a 6 50 :: ap a 7 82 :: ap a 8 119 :: ap a 9 123 :: ap a 10 115 :: ap a 11 127 :: ap a 12 74 :: R)) | .pan p => OutP (.ifc 24 (vI p)) R

def Fm (N : Nat) : Nat → (List Ae) → Eq → (List (ByteArray × Bool)) → Option (LR (Eq × (List Ae)) (PR (TRd × (List Ae)) Int))
 | 0, _, _, _ => none
 | m + 1, a, b, c => ((H8 N a).bind fun d => (cond d (((Fh N a 0).bind fun v => match v with | .val (e, f) => ((Ej N e).bind fun v => match v with | .val g => ((gisadl_check N b g.f_rest c).bind fun v => match v with | .val (h, n, i) => Fm N m f h i | .pan j => some (.ret (.pan j))) | .pan k => some (.ret (.pan k))) | .pan l => some (.ret (.pan l)))) (some (.out (b, a)))))

def Jo (n : Nat) (c : TRd) (g : (List Ae)) : Option ((PR (TRd × (List Ae)) Int)) := ((((Db n g).bind fun v => match v with | .val (aj, h) => ((Gd n c.f_Desc.f_Rels aj 128).bind fun v => match v with | .val i => ((Fi n h).bind fun v => match v with | .val (j, k) => some (.out (k, (Eq.mk i j 0 0 0 0 (Ao.mk 0 0 0 0 ([] : List Ao)) 0 0 0 0 (-1) 0))) | .pan l => some (.ret (.pan l))) | .pan m => some (.ret (.pan m))) | .pan o => some (.ret (.pan o))) : Option (LR ((List Ae) × Eq) (PR (TRd × (List Ae)) Int))).bind fun v => match v with | .out (ak, a) => ((Db n ak).bind fun v => match v with | .val (e, d) => (((cond (decide (e = (ByteArray.mk #[110, 111, 110, 101]))) (some (.out (d, (Eq.mk a.f_Name a.f_Num 1 a.f_Bytes a.f_Class a.f_Class2 a.f_Calc a.f_Sign a.f_Width a.f_Align a.f_Round a.f_Hi a.f_Lo)))) ((cond (decide (e = (ByteArray.mk #[100, 97, 116, 97]))) (((Fi n d).bind fun v => match v with | .val (p, q) => some (.out (q, (Eq.mk a.f_Name a.f_Num 2 p a.f_Class a.f_Class2 a.f_Calc a.f_Sign a.f_Width a.f_Align a.f_Round a.f_Hi a.f_Lo))) | .pan r => some (.ret (.pan r)))) ((cond (decide (e = (ByteArray.mk #[105, 110, 115, 110]))) (((G0 n c d).bind fun v => match v with | .val (s, t) => some (.out (t, (Eq.mk a.f_Name a.f_Num 3 a.f_Bytes s a.f_Class2 a.f_Calc a.f_Sign a.f_Width a.f_Align a.f_Round a.f_Hi a.f_Lo))) | .pan u => some (.ret (.pan u)))) ((cond (decide (e = (ByteArray.mk #[112, 97, 105, 114]))) (((G0 n c d).bind fun v => match v with | .val (w, x) => ((G0 n c x).bind fun v => match v with | .val (y, z) => some (.out (z, (Eq.mk a.f_Name a.f_Num 4 a.f_Bytes w y a.f_Calc a.f_Sign a.f_Width a.f_Align a.f_Round a.f_Hi a.f_Lo))) | .pan a0 => some (.ret (.pan a0))) | .pan a1 => some (.ret (.pan a1)))) (((Ay n false 41).bind fun v => match v with | .val _ => some (.out (d, a)) | .pan a2 => some (.ret (.pan a2))))))))))) : Option (LR ((List Ae) × Eq) (PR (TRd × (List Ae)) Int))).bind fun v => match v with | .out (f, b) => (((cond (b.f_Kind != 1) (((Fh n f 0).bind fun v => match v with | .val (a3, a4) => ((gisadl_calc n a3).bind fun v => match v with | .val a5 => ((Fm n n a4 (Eq.mk b.f_Name b.f_Num b.f_Kind b.f_Bytes b.f_Class b.f_Class2 a5 b.f_Sign b.f_Width b.f_Align b.f_Round b.f_Hi b.f_Lo) ([] : (List (ByteArray × Bool)))).bind fun v => match v with | .out (a6, a7) => some (.out (a6, a7)) | .ret a8 => some (.ret a8)) | .pan a9 => some (.ret (.pan a9))) | .pan aa => some (.ret (.pan aa)))) (some (.out (b, f)))) : Option (LR (Eq × (List Ae)) (PR (TRd × (List Ae)) Int))).bind fun v => match v with | .out (ab, ac) => ((((appL 160 c.f_Desc.f_Rels ([ab] : List Eq)).bind fun ad => some (TRd.mk (H2.mk c.f_Desc.f_Name c.f_Desc.f_Order c.f_Desc.f_Files c.f_Desc.f_Aliases c.f_Desc.f_Flags c.f_Desc.f_Classes c.f_Desc.f_Forms ad c.f_Desc.f_Uses c.f_Desc.f_Relaxes c.f_Desc.f_Macros c.f_Desc.f_Nums c.f_Desc.f_Regs))) : Option (TRd)).bind fun ae => some (.val (ae, ac))) | .ret af => some af) | .ret ag => some ag) | .pan ah => some (.pan ah)) | .ret ai => some ai)

def Gq (b : Nat) (c : Nat) (e : A) (R : List Res) (r : (PR (TRd × (List Ae)) Int)) : Out → St → Prop := match r with | .val r => OutV (fun x s => ∃ (a : (List A)) (d : A), x = (.tup []) ∧ E2 e r.1 a ∧ Sl A0 d r.2 ∧ Hp s (.blk b (.cells a 62) :: .blk c (.cells [d] 167) :: ap a 2 72 :: ap a 3 74 :: ap a 4 9 :: ap a 5 78 :: ap a 6 50 :: ap a 7 82 :: ap a 8 119 :: ap a 9 123 :: ap a 10 115 :: ap a 11 127 :: ap a 12 74 :: R)) | .pan p => OutP (.ifc 24 (vI p)) R

def Jp (n : Nat) (a : TRd) (c : (List Ae)) : Option ((PR (TRd × (List Ae)) Int)) := ((Ay n (decide (((a.f_Desc.f_Uses.length : Nat) : Int) < 128)) 43).bind fun v => match v with | .val _ => ((Db n c).bind fun v => match v with | .val (b, h) => (((cond (decide (b = (ByteArray.mk #[110, 111, 110, 101]))) (some (ByteArray.mk #[])) (some b)) : Option (ByteArray)).bind fun i => ((G0 n a h).bind fun v => match v with | .val (j, k) => ((Jn n a k).bind fun v => match v with | .val (l, m) => ((gc_is n m (ByteArray.mk #[101, 110, 100])).bind fun v => match v with | (o, p) => ((((appL 40 a.f_Desc.f_Uses ([(TUse.mk i j l o)] : List TUse)).bind fun q => some (TRd.mk (H2.mk a.f_Desc.f_Name a.f_Desc.f_Order a.f_Desc.f_Files a.f_Desc.f_Aliases a.f_Desc.f_Flags a.f_Desc.f_Classes a.f_Desc.f_Forms a.f_Desc.f_Rels q a.f_Desc.f_Relaxes a.f_Desc.f_Macros a.f_Desc.f_Nums a.f_Desc.f_Regs))) : Option (TRd)).bind fun r => some (.val (r, p)))) | .pan d => some (.pan d)) | .pan e => some (.pan e))) | .pan f => some (.pan f)) | .pan g => some (.pan g))

def gr_readUse_f80_post (b : Nat) (c : Nat) (e : A) (R : List Res) (r : (PR (TRd × (List Ae)) Int)) : Out → St → Prop := match r with | .val r => OutV (fun x s => ∃ (a : (List A)) (d : A), x = (.tup []) ∧ E2 e r.1 a ∧ Sl A0 d r.2 ∧ Hp s (.blk b (.cells a 62) :: .blk c (.cells [d] 167) :: ap a 2 72 :: ap a 3 74 :: ap a 4 9 :: ap a 5 78 :: ap a 6 50 :: ap a 7 82 :: ap a 8 119 :: ap a 9 123 :: ap a 10 115 :: ap a 11 127 :: ap a 12 74 :: R)) | .pan p => OutP (.ifc 24 (vI p)) R

def gr_item_f28 (n : Nat) (a : TRd) (cn : Ae) (co : Bool) : Option ((PR TRd Int)) := ((Ej n cn).bind fun v => match v with | .val cm => ((Db n cm.f_rest).bind fun v => match v with | .val (b, c) => ((Ay n (co == (decide (b = (ByteArray.mk #[105, 115, 97])))) 41).bind fun v => match v with | .val _ => (((cond (decide (b = (ByteArray.mk #[105, 115, 97]))) (((Db n c).bind fun v => match v with | .val (e, g) => ((Db n g).bind fun v => match v with | .val (d, f) => ((Ay n ((decide (d = (ByteArray.mk #[119, 111, 114, 100]))) || (decide (d = (ByteArray.mk #[98, 121, 116, 101, 115])))) 41).bind fun v => match v with | .val _ => (cond (decide (d = (ByteArray.mk #[98, 121, 116, 101, 115]))) (some (.out (f, (TRd.mk (H2.mk e 2 a.f_Desc.f_Files a.f_Desc.f_Aliases a.f_Desc.f_Flags a.f_Desc.f_Classes a.f_Desc.f_Forms a.f_Desc.f_Rels a.f_Desc.f_Uses a.f_Desc.f_Relaxes a.f_Desc.f_Macros a.f_Desc.f_Nums a.f_Desc.f_Regs))))) (some (.out (f, (TRd.mk (H2.mk e 1 a.f_Desc.f_Files a.f_Desc.f_Aliases a.f_Desc.f_Flags a.f_Desc.f_Classes a.f_Desc.f_Forms a.f_Desc.f_Rels a.f_Desc.f_Uses a.f_Desc.f_Relaxes a.f_Desc.f_Macros a.f_Desc.f_Nums a.f_Desc.f_Regs)))))) | .pan h => some (.ret (.pan h))) | .pan i => some (.ret (.pan i))) | .pan j => some (.ret (.pan j)))) ((cond (decide (b = (ByteArray.mk #[102, 105, 108, 101]))) (((I5 n a c).bind fun v => match v with | .val (k, l) => some (.out (l, k)) | .pan m => some (.ret (.pan m)))) ((cond (decide (b = (ByteArray.mk #[97, 108, 105, 97, 115]))) (((((Db n c).bind fun v => match v with | .val (o, p) => ((Fy n a.f_Desc.f_Aliases o 256).bind fun v => match v with | .val q => some (.out (q, p)) | .pan r => some (.ret (.pan r))) | .pan s => some (.ret (.pan s))) : Option (LR (ByteArray × (List Ae)) (PR TRd Int))).bind fun v => match v with | .out (t, u) => ((((Jm n a u).bind fun v => match v with | .val (w, x) => ((Fi n x).bind fun v => match v with | .val (y, z) => ((appL 32 a.f_Desc.f_Aliases ([(Dt.mk t w y)] : List Dt)).bind fun a0 => some (.out (z, (TRd.mk (H2.mk a.f_Desc.f_Name a.f_Desc.f_Order a.f_Desc.f_Files a0 a.f_Desc.f_Flags a.f_Desc.f_Classes a.f_Desc.f_Forms a.f_Desc.f_Rels a.f_Desc.f_Uses a.f_Desc.f_Relaxes a.f_Desc.f_Macros a.f_Desc.f_Nums a.f_Desc.f_Regs))))) | .pan a1 => some (.ret (.pan a1))) | .pan a2 => some (.ret (.pan a2))) : Option (LR ((List Ae) × TRd) (PR TRd Int))).bind fun v => match v with | .out (a3, a4) => some (.out (a3, a4)) | .ret a5 => some (.ret a5)) | .ret a6 => some (.ret a6))) ((cond (decide (b = (ByteArray.mk #[102, 108, 97, 103]))) (((((Db n c).bind fun v => match v with | .val (a7, a8) => ((Ha n a.f_Desc.f_Flags a7 16).bind fun v => match v with | .val a9 => ((appL 16 a.f_Desc.f_Flags ([a9] : List ByteArray)).bind fun aa => some (.out (a8, (TRd.mk (H2.mk a.f_Desc.f_Name a.f_Desc.f_Order a.f_Desc.f_Files a.f_Desc.f_Aliases aa a.f_Desc.f_Classes a.f_Desc.f_Forms a.f_Desc.f_Rels a.f_Desc.f_Uses a.f_Desc.f_Relaxes a.f_Desc.f_Macros a.f_Desc.f_Nums a.f_Desc.f_Regs))))) | .pan ab => some (.ret (.pan ab))) | .pan ac => some (.ret (.pan ac))) : Option (LR ((List Ae) × TRd) (PR TRd Int))).bind fun v => match v with | .out (ad, ae) => some (.out (ad, ae)) | .ret af => some (.ret af))) ((cond (decide (b = (ByteArray.mk #[99, 108, 97, 115, 115]))) (((Ig n a c).bind fun v => match v with | .val (ag, ah) => some (.out (ah, ag)) | .pan ai => some (.ret (.pan ai)))) ((cond (decide (b = (ByteArray.mk #[102, 111, 114, 109]))) (((I6 n a c).bind fun v => match v with | .val (aj, ak) => some (.out (ak, aj)) | .pan al => some (.ret (.pan al)))) ((cond (decide (b = (ByteArray.mk #[109, 97, 99, 114, 111]))) (((Ih n a c).bind fun v => match v with | .val (am, an) => some (.out (an, am)) | .pan ao => some (.ret (.pan ao)))) ((cond (decide (b = (ByteArray.mk #[114, 101, 108]))) (((Jo n a c).bind fun v => match v with | .val (ap, aq) => some (.out (aq, ap)) | .pan ar => some (.ret (.pan ar)))) ((cond (decide (b = (ByteArray.mk #[117, 115, 101]))) (((Jp n a c).bind fun v => match v with | .val (au, av) => some (.out (av, au)) | .pan aw => some (.ret (.pan aw)))) ((cond (decide (b = (ByteArray.mk #[114, 101, 108, 97, 120]))) (((Ay n (decide (((a.f_Desc.f_Relaxes.length : Nat) : Int) < 16)) 43).bind fun v => match v with | .val _ => ((Jn n a c).bind fun v => match v with | .val (ax, ay) => ((((Db n ay).bind fun v => match v with | .val (az, b0) => ((Hj n a.f_Desc.f_Forms az).bind fun v => match v with | .val b1 => some (.out (b1, b0)) | .pan b2 => some (.ret (.pan b2))) | .pan b3 => some (.ret (.pan b3))) : Option (LR (Int × (List Ae)) (PR TRd Int))).bind fun v => match v with | .out (b4, b5) => ((((Jn n a b5).bind fun v => match v with | .val (b6, b7) => ((appL 24 a.f_Desc.f_Relaxes ([(Id.mk ax b4 b6)] : List Id)).bind fun b8 => some (.out (b7, (TRd.mk (H2.mk a.f_Desc.f_Name a.f_Desc.f_Order a.f_Desc.f_Files a.f_Desc.f_Aliases a.f_Desc.f_Flags a.f_Desc.f_Classes a.f_Desc.f_Forms a.f_Desc.f_Rels a.f_Desc.f_Uses b8 a.f_Desc.f_Macros a.f_Desc.f_Nums a.f_Desc.f_Regs))))) | .pan b9 => some (.ret (.pan b9))) : Option (LR ((List Ae) × TRd) (PR TRd Int))).bind fun v => match v with | .out (ba, bb) => some (.out (ba, bb)) | .ret bc => some (.ret bc)) | .ret bd => some (.ret bd)) | .pan be => some (.ret (.pan be))) | .pan bf => some (.ret (.pan bf)))) ((cond (decide (b = (ByteArray.mk #[110, 117, 109]))) (((((Db n c).bind fun v => match v with | .val (bg, bh) => ((Hk n a.f_Desc.f_Nums bg 64).bind fun v => match v with | .val bi => some (.out (bi, bh)) | .pan bj => some (.ret (.pan bj))) | .pan bk => some (.ret (.pan bk))) : Option (LR (ByteArray × (List Ae)) (PR TRd Int))).bind fun v => match v with | .out (bl, bm) => ((((Fh n bm 2).bind fun v => match v with | .val (bn, bo) => ((appL 24 a.f_Desc.f_Nums ([(Fx.mk bl bn.f_Num)] : List Fx)).bind fun bp => some (.out (bo, (TRd.mk (H2.mk a.f_Desc.f_Name a.f_Desc.f_Order a.f_Desc.f_Files a.f_Desc.f_Aliases a.f_Desc.f_Flags a.f_Desc.f_Classes a.f_Desc.f_Forms a.f_Desc.f_Rels a.f_Desc.f_Uses a.f_Desc.f_Relaxes a.f_Desc.f_Macros bp a.f_Desc.f_Regs))))) | .pan bq => some (.ret (.pan bq))) : Option (LR ((List Ae) × TRd) (PR TRd Int))).bind fun v => match v with | .out (br, bs) => some (.out (br, bs)) | .ret bt => some (.ret bt)) | .ret bu => some (.ret bu))) ((cond (decide (b = (ByteArray.mk #[114, 101, 103]))) (((((Db n c).bind fun v => match v with | .val (bv, bw) => ((Fy n a.f_Desc.f_Regs bv 64).bind fun v => match v with | .val bx => some (.out (bx, bw)) | .pan bz => some (.ret (.pan bz))) | .pan c0 => some (.ret (.pan c0))) : Option (LR (ByteArray × (List Ae)) (PR TRd Int))).bind fun v => match v with | .out (c1, c2) => ((((Jm n a c2).bind fun v => match v with | .val (c3, c4) => ((Fi n c4).bind fun v => match v with | .val (c5, c6) => ((appL 32 a.f_Desc.f_Regs ([(Dt.mk c1 c3 c5)] : List Dt)).bind fun c7 => some (.out (c6, (TRd.mk (H2.mk a.f_Desc.f_Name a.f_Desc.f_Order a.f_Desc.f_Files a.f_Desc.f_Aliases a.f_Desc.f_Flags a.f_Desc.f_Classes a.f_Desc.f_Forms a.f_Desc.f_Rels a.f_Desc.f_Uses a.f_Desc.f_Relaxes a.f_Desc.f_Macros a.f_Desc.f_Nums c7))))) | .pan c8 => some (.ret (.pan c8))) | .pan c9 => some (.ret (.pan c9))) : Option (LR ((List Ae) × TRd) (PR TRd Int))).bind fun v => match v with | .out (ca, cb) => some (.out (ca, cb)) | .ret cc => some (.ret cc)) | .ret cd => some (.ret cd))) (((Ay n false 41).bind fun v => match v with | .val _ => some (.out (c, a)) | .pan ce => some (.ret (.pan ce))))))))))))))))))))))))))) : Option (LR ((List Ae) × TRd) (PR TRd Int))).bind fun v => match v with | .out (cf, cg) => ((gc_end n cf).bind fun v => match v with | .val _ => some (.val cg) | .pan ch => some (.pan ch)) | .ret ci => some ci) | .pan cj => some (.pan cj)) | .pan ck => some (.pan ck)) | .pan cl => some (.pan cl))

def De (a : Nat) (R : List Res) (r : (PR TRd Int)) : Out → St → Prop := match r with | .val r => OutV (fun x s => ∃ (b : A) (c : (List A)), x = (.tup []) ∧ isOne b = true ∧ E2 b r c ∧ Hp s (C0 a c R)) | .pan p => OutP (.ifc 24 (vI p)) R

def H3 (n : Nat) (d : TRd) (e : Ae) (f : Bool) : Option ((RL (Int × TRd) Int)) := ((gr_item_f28 n d e f).bind fun v => match v with | .val a => ((gr_tried_1_fin n 0).bind fun v => match v with | _ => some (.val (0, a))) | .pan b => ((gr_tried_1_pan n 0 b).bind fun v => match v with | c => some (.lost c)))

def gr_tried_f13_post (a : Nat) (R : List Res) (r : (RL (Int × TRd) Int)) (x : A) (s : St) : Prop := match r with | .val r => ∃ (b : A) (c : (List A)), x = (vI r.1) ∧ isOne b = true ∧ E2 b r.2 c ∧ Hp s (C0 a c R) | .lost r => x = (vI r) ∧ Hp s R

def Fq (N : Nat) (b : (List Ae)) : Nat → Int → TRd → Option (LR TRd (H2 × Int × Int))
 | 0, _, _ => none
 | m + 1, a, e => (cond (decide (a < ((b.length : Nat) : Int))) (((atL b a).bind fun f => ((H3 N e f (a == 0)).bind fun v => match v with | .val (c, g) => (cond (c != 0) (some (.ret ((H2.mk (ByteArray.mk #[]) 0 ([] : List Fz) ([] : List Dt) ([] : List ByteArray) ([] : List Ee) ([] : List F0) ([] : List Eq) ([] : List TUse) ([] : List Id) ([] : List TMacro) ([] : List Fx) ([] : List Dt)), a, c))) (Fq N b m (IntKind.wrap .i64 (a + 1)) g)) | .lost d => (cond (d != 0) (some (.ret ((H2.mk (ByteArray.mk #[]) 0 ([] : List Fz) ([] : List Dt) ([] : List ByteArray) ([] : List Ee) ([] : List F0) ([] : List Eq) ([] : List TUse) ([] : List Id) ([] : List TMacro) ([] : List Fx) ([] : List Dt)), a, d))) (none))))) (some (.out e)))

def I2 (n : Nat) (f : ByteArray) : Option ((H2 × Int × Int)) := ((Gz n f).bind fun v => match v with | (a, e, b) => (cond (b != 0) (some ((H2.mk (ByteArray.mk #[]) 0 ([] : List Fz) ([] : List Dt) ([] : List ByteArray) ([] : List Ee) ([] : List F0) ([] : List Eq) ([] : List TUse) ([] : List Id) ([] : List TMacro) ([] : List Fx) ([] : List Dt)), e, b)) ((cond (((a.length : Nat) : Int) == 0) (some ((H2.mk (ByteArray.mk #[]) 0 ([] : List Fz) ([] : List Dt) ([] : List ByteArray) ([] : List Ee) ([] : List F0) ([] : List Eq) ([] : List TUse) ([] : List Id) ([] : List TMacro) ([] : List Fx) ([] : List Dt)), 0, 41)) (((Fq n a n 0 (TRd.mk (H2.mk (ByteArray.mk #[]) 0 ([] : List Fz) ([] : List Dt) ([] : List ByteArray) ([] : List Ee) ([] : List F0) ([] : List Eq) ([] : List TUse) ([] : List Id) ([] : List TMacro) ([] : List Fx) ([] : List Dt)))).bind fun v => match v with | .out c => some (c.f_Desc, 0, 0) | .ret d => some d))))))

def gisadl_Parse_post (R : List Res) (r : (H2 × Int × Int)) (x : A) (s : St) : Prop := ∃ (g h i j k a b c d e f : A), x = (.tup [(.agg [(vS r.1.f_Name), (vI r.1.f_Order), g, h, i, j, k, a, b, c, d, e, f]), (vI r.2.1), (vI r.2.2)]) ∧ Sl rTFile g r.1.f_Files ∧ Sl rTAlias h r.1.f_Aliases ∧ Sl rS i r.1.f_Flags ∧ Sl rTClass j r.1.f_Classes ∧ Sl rTForm k r.1.f_Forms ∧ Sl rTRel a r.1.f_Rels ∧ Sl rTUse b r.1.f_Uses ∧ Sl rTRelaxed c r.1.f_Relaxes ∧ Sl rTMacro d r.1.f_Macros ∧ Sl rTNamed e r.1.f_Nums ∧ Sl rTAlias f r.1.f_Regs ∧ Hp s (.app g 72 :: .app h 74 :: .app i 9 :: .app j 78 :: .app k 50 :: .app a 82 :: .app b 119 :: .app c 123 :: .app d 115 :: .app e 127 :: .app f 74 :: R)

def Er (n : Nat) : Option (Bool) := ((I2 n (ByteArray.mk #[40, 105, 115, 97, 32, 116, 111, 121, 32, 119, 111, 114, 100, 41, 32, 40, 102, 105, 108, 101, 32, 120, 32, 52, 32, 56, 41, 32, 40, 99, 108, 97, 115, 115, 32, 114, 32, 114, 101, 103, 32, 120, 32, 50, 41, 32, 40, 102, 111, 114, 109, 32, 105, 110, 99, 32, 34, 105, 110, 99, 32, 100, 34, 32, 40, 40, 100, 32, 114, 41, 41, 32, 40, 46, 48, 48, 48, 48, 48, 48, 32, 100, 41, 32, 40, 40, 115, 101, 116, 32, 40, 120, 32, 100, 41, 32, 40, 97, 100, 100, 32, 40, 120, 32, 100, 41, 32, 40, 99, 32, 56, 32, 49, 41, 41, 41, 41, 41])).bind fun v => match v with | (a, h, g) => (((cond (((g == 0) && (decide (a.f_Name = (ByteArray.mk #[116, 111, 121])))) && (((a.f_Forms.length : Nat) : Int) == 1)) (((atL a.f_Forms 0).bind fun c => some (((c.f_Args.length : Nat) : Int) == 1))) (some false)) : Option (Bool)).bind fun d => (((cond d (((atL a.f_Forms 0).bind fun e => ((atL e.f_Sem 0).bind fun b => some (b.f_Op == 31)))) (some false)) : Option (Bool)).bind fun f => some f)))

def gdovetaillaw04_isadlAlive_post (R : List Res) (r : Bool) (x : A) (s : St) : Prop := x = (vB r) ∧ Hp s R

def Ft (n : Nat) (a : ByteArray) (g : ByteArray) : Option (Bool) := ((Er n ).bind fun o => (cond (!o) (some false) (((Gz n a).bind fun v => match v with | (h, u, p) => ((Gz n g).bind fun v => match v with | (i, q, j) => ((catS a (ByteArray.mk #[10])).bind fun k => ((catS k g).bind fun b => (cond ((((p != 0) || (j != 0)) || (decide (((a.size : Nat) : Int) ≥ 262143))) || (decide (((g.size : Nat) : Int) ≥ (IntKind.wrap .i64 (262143 - ((a.size : Nat) : Int)))))) (some true) (((Gz n b).bind fun v => match v with | (l, r, c) => (cond ((c != 0) || (((l.length : Nat) : Int) != (IntKind.wrap .i64 (((h.length : Nat) : Int) + ((i.length : Nat) : Int))))) (some (c == 33)) (((I2 n a).bind fun v => match v with | (s, m, d) => ((I2 n b).bind fun v => match v with | (t, e, f) => (cond ((d != 0) && (decide (((h.length : Nat) : Int) > 0))) (some ((e == m) && (f == d))) (some ((f == 0) || (decide (e ≥ ((h.length : Nat) : Int))))))))))))))))))))

def gdovetaillaw04_IsadlFirst_post (R : List Res) (r : Bool) (x : A) (s : St) : Prop := x = (vB r) ∧ Hp s R

end Go.DM
