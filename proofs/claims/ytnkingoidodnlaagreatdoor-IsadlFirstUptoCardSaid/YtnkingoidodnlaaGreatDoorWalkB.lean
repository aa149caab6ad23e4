/- Walks: the calls come to the typed functions, part 1. No condition. -/
import Derived.Test.YtnkingoidodnlaaGreatDoorWalkA
namespace Go.DM
open Go Go.Proofs
set_option maxRecDepth 100000
set_option maxHeartbeats 40000000
theorem prim62_ok {a : ByteArray} {b : Int} {R : List Res} {σ : St} (hp : Hp σ R) {r : Int} (H : indexByteT a b = some r) : Ca cfg 62 [(vS a), (.v (.int .u8 b))] σ (fun x σ' => x = (vI r) ∧ Hp σ' R) := indexByteT_ok (C := cfg) (f := 62) rfl hp H
theorem prim92_ok {a : Int} {R : List Res} {σ : St} (hp : Hp σ R) {r : ByteArray} (H : itoaT a = some r) : Ca cfg 92 [(vI a)] σ (fun x σ' => x = (vS r) ∧ Hp σ' R) := itoaT_ok (C := cfg) (f := 92) rfl hp H
theorem prim103_ok {a : ByteArray} {b : Int} {R : List Res} {σ : St} (hp : Hp σ R) {r : Bool} (H : containsRuneT a b = some r) : Ca cfg 103 [(vS a), (.v (.int .i32 b))] σ (fun x σ' => x = (vB r) ∧ Hp σ' R) := containsRuneT_ok (C := cfg) (f := 103) rfl hp H
theorem prim104_ok {a : ByteArray} {R : List Res} {σ : St} (hp : Hp σ R) {r : (Int × Bool)} (H : atoiT a = some r) : Ca cfg 104 [(vS a)] σ (fun x σ' => x = (.tup [(vI r.1), (errA 232 r.2)]) ∧ Hp σ' R) := atoiT_ok (C := cfg) (f := 104) rfl hp H
theorem prim106_ok {a : ByteArray} {R : List Res} {σ : St} (hp : Hp σ R) {r : (List ByteArray)} (H : fieldsT a = some r) : Ca cfg 106 [(vS a)] σ (fun x σ' => ∃ (b : A), x = b ∧ Sl rS b r ∧ Hp σ' R) := fieldsT_ok (C := cfg) (f := 106) rfl hp H
theorem prim160_ok {a : ByteArray} {b : ByteArray} {R : List Res} {σ : St} (hp : Hp σ R) {r : ByteArray} (H : trimT a b = some r) : Ca cfg 160 [(vS a), (vS b)] σ (fun x σ' => x = (vS r) ∧ Hp σ' R) := trimT_ok (C := cfg) (f := 160) rfl hp H
theorem prim161_ok {a : ByteArray} {b : ByteArray} {R : List Res} {σ : St} (hp : Hp σ R) {r : (ByteArray × ByteArray × Bool)} (H : cutT a b = some r) : Ca cfg 161 [(vS a), (vS b)] σ (fun x σ' => x = (.tup [(vS r.1), (vS r.2.1), (vB r.2.2)]) ∧ Hp σ' R) := cutT_ok (C := cfg) (f := 161) rfl hp H
theorem gsexp_parser__skip_ok {n : Nat} {a : Nat} {b : ByteArray} {z : Int} {c : Int} {R : List Res} {σ : St} (hp : Hp σ (.blk a (.cells [(vS b), (vI z), (vI c)] 57) :: R)) {r : Int} (H : G7 n b z c = some r) : Ca cfg 21 [(.ptr a 0)] σ (Kn a b c R r) := by
 unfold G7 at H
 refine Ca.enterL (G := [(0, (.ptr a 0))]) Tryz.func21 rfl rfl rfl rfl (Bb ?_)
 obtain ⟨a1, a6, H⟩ := bind_some H
 refine A4 (J := _) (D8 (fl rfl) (Cw (f := (fun m (i : Int × Unit) => Ck n b m i.1)) (G := (fun (i : Int × Unit) => ([(0, (.ptr a 0))] : List (Nat × A)))) (I := (fun (i : Int × Unit) (s : St) => Hp s (.blk a (.cells [(vS b), (vI i.1), (vI c)] 57) :: R))) (J := (fun (v : LR Int Int) (x : X) (φ : Fr) (s : St) => match v with | .out a2 => x = (.exit 0) ∧ (Hp s (.blk a (.cells [(vS b), (vI a2), (vI c)] 57) :: R) ∧ Fl [] φ) | .ret r => x = .ret ∧ Ret cfg Tryz.f21 (Kn a b c R r) .ret φ s)) (fun _ => rfl) ?_ n (z, ()) _ a1 hp a6)) ?_
 {
 rintro m ⟨g, _⟩ an v a3 H ih
 change Ck n b (m + 1) g = some v at H
 rw [Ck] at H
 change Ec _ _ _ [(0, (.ptr a 0))] an _
 refine Ac (Ac ?_)
 obtain ⟨k, a7, H⟩ := bind_some H
 refine A4 (J := (fun (k : Bool) (x : X) (φ : Fr) (s : St) => x = .normal ∧ (Hp s (.blk a (.cells [(vS b), (vI g), (vI c)] 57) :: R) ∧ Fl [(0, (.ptr a 0)), (13, (vB k))] φ)) k) ?_ ?_
 {
 have H := a7
 refine Fv (by kernel_rfl) ?_
 iterate 3 refine V rfl ?_
 refine W (Ag a3 0 rfl rfl rfl rfl) rfl ?_
 iterate 3 refine V rfl ?_
 refine W (Ag a3 0 rfl rfl rfl rfl) rfl (W (Ic rfl rfl rfl rfl rfl Tryz.underlying9) rfl (V rfl (Ab ?_)))
 obtain rfl := so H
 exact And.intro rfl (And.intro rfl ⟨a3, (fl rfl)⟩)}
 {
 intro x ao ap hJ
 obtain ⟨rfl, h, a8⟩ := hJ
 refine Be (F := [(0, (.ptr a 0)), (13, (vB k))]) a8 ?_
 refine An (t := k) rfl (fun p => ?_) (fun p => ?_)
 {
 have H := Au p H
 refine A7 (Bb (Ac ?_))
 obtain ⟨d, a9, H⟩ := bind_some H
 refine A4 (J := (fun (d : Int) (x : X) (φ : Fr) (s : St) => x = .normal ∧ (Hp s (.blk a (.cells [(vS b), (vI g), (vI c)] 57) :: R) ∧ Fl [(0, (.ptr a 0)), (2, (.v (.int .u8 d)))] φ)) d) ?_ ?_
 {
 have H := a9
 refine Fv (by kernel_rfl) ?_
 iterate 3 refine V rfl ?_
 refine W (Ag h 0 rfl rfl rfl rfl) rfl ?_
 iterate 3 refine V rfl ?_
 refine W (Ag h 0 rfl rfl rfl rfl) rfl ?_
 obtain ⟨b8, hvb143, H⟩ := bind_some H
 refine W (op_byteS hvb143 rfl rfl rfl Tryz.underlying9) rfl (V rfl (Ab ?_))
 obtain rfl := so H
 exact And.intro rfl (And.intro rfl ⟨h, (fl rfl)⟩)}
 {
 intro x aq ar hJ
 obtain ⟨rfl, e, aa⟩ := hJ
 refine Be (F := [(0, (.ptr a 0)), (2, (.v (.int .u8 d)))]) aa (Bb (Ac (Aa ?_)))
 iterate 3 refine V rfl ?_
 refine Gr 3 [(0, (.ptr a 0)), (2, (.v (.int .u8 d))), (29, (vB ((d == 32) || (d == 10))))] ?_ ?_
 {
 cases au : (d == 32)
 {
 iterate 3 refine V rfl ?_
 exact Ab (nn (fl rfl))}
 {
 refine Co rfl rfl rfl (Co rfl rfl rfl (V rfl ?_))
 exact Ab (nn (fl rfl))}}
 {
 refine V rfl (Ab ?_)
 refine An (t := ((d == 32) || (d == 10))) rfl (fun q => ?_) (fun q => ?_)
 {
 have H := Au q H
 refine Aa ?_
 iterate 3 refine V rfl ?_
 refine W (Ag e 0 rfl rfl rfl rfl) rfl ?_
 iterate 3 refine V rfl ?_
 refine Al e 0 rfl (Af rfl rfl rfl rfl rfl rfl) rfl rfl rfl rfl rfl ?_
 intro av ab
 refine Ab ?_
 exact Be (fl rfl) (ih ((IntKind.wrap .i64 (g + 1)), ()) _ ab H)}
 {
 have H := Av q H
 refine Ac (Aa ?_)
 iterate 3 refine V rfl ?_
 refine Ab ?_
 refine An (t := (d == 59)) rfl (fun u => ?_) (fun u => ?_)
 {
 have H := Au u H
 refine Ac ?_
 obtain ⟨l, ac, H⟩ := bind_some H
 refine A4 (J := (fun (l : Int) (x : X) (φ : Fr) (s : St) => x = .normal ∧ (Hp s (.blk a (.cells [(vS b), (vI g), (vI c)] 57) :: R) ∧ Fl [(0, (.ptr a 0)), (3, (vI l))] φ)) l) ?_ ?_
 {
 have H := ac
 refine Fv (by kernel_rfl) ?_
 iterate 3 refine V rfl ?_
 refine W (Ag e 0 rfl rfl rfl rfl) rfl ?_
 iterate 3 refine V rfl ?_
 refine W (Ag e 0 rfl rfl rfl rfl) rfl ?_
 obtain ⟨b9, a4, H⟩ := bind_some H
 refine W (op_partS a4 rfl rfl Tryz.underlying9 (.inr ⟨_, _, rfl, rfl⟩) (.inl ⟨rfl, rfl⟩)) rfl ?_
 obtain ⟨ba, a5, H⟩ := bind_some H
 refine A2 rfl rfl rfl rfl (prim62_ok e a5) ?_
 rintro _ aw ⟨rfl, ad⟩
 refine V rfl (Ab ?_)
 obtain rfl := so H
 exact And.intro rfl (And.intro rfl ⟨ad, (fl rfl)⟩)}
 {
 intro x ax ay hJ
 obtain ⟨rfl, j, ae⟩ := hJ
 refine Be (F := [(0, (.ptr a 0)), (3, (vI l))]) ae (Ac (Ac (Aa (V rfl (V rfl ?_)))))
 refine Ab ?_
 obtain ⟨o, af, H⟩ := bind_some H
 refine A4 (J := (fun (o : Int) (x : X) (φ : Fr) (s : St) => x = .normal ∧ (Hp s (.blk a (.cells [(vS b), (vI g), (vI c)] 57) :: R) ∧ Fl [(0, (.ptr a 0)), (3, (vI o))] φ)) o) ?_ ?_
 {
 have H := af
 refine An (t := (decide (l < 0))) rfl (fun w => ?_) (fun w => ?_)
 {
 have H := Au w H
 obtain ⟨y, ag, H⟩ := bind_some H
 refine A4 (J := (fun (y : Int) (x : X) (φ : Fr) (s : St) => x = .normal ∧ (Hp s (.blk a (.cells [(vS b), (vI g), (vI c)] 57) :: R) ∧ Fl [(0, (.ptr a 0)), (3, (vI y))] φ)) y) ?_ ?_
 {
 have H := ag
 refine Fv (by kernel_rfl) ?_
 iterate 3 refine V rfl ?_
 refine W (Ag j 0 rfl rfl rfl rfl) rfl (W (Ic rfl rfl rfl rfl rfl Tryz.underlying9) rfl ?_)
 iterate 3 refine V rfl ?_
 refine W (Ag j 0 rfl rfl rfl rfl) rfl (V rfl (V rfl (Ab ?_)))
 obtain rfl := so H
 exact And.intro rfl (And.intro rfl ⟨j, (fl rfl)⟩)}
 {
 intro x az b0 hJ
 obtain ⟨rfl, ah, ai⟩ := hJ
 obtain rfl := so H
 exact And.intro rfl ⟨ah, (Fl.trans (G := [(0, (.ptr a 0)), (3, (vI y))]) (fl rfl) ai)⟩}}
 {
 have H := Av w H
 refine A7 ?_
 obtain rfl := so H
 exact And.intro rfl ⟨j, (fl rfl)⟩}}
 {
 intro x b1 b2 hJ
 obtain ⟨rfl, a0, aj⟩ := hJ
 refine Be (F := [(0, (.ptr a 0)), (3, (vI o))]) aj (Aa ?_)
 iterate 3 refine V rfl ?_
 refine W (Ag a0 0 rfl rfl rfl rfl) rfl ?_
 iterate 4 refine V rfl ?_
 refine Al a0 0 rfl (Af rfl rfl rfl rfl rfl rfl) rfl rfl rfl rfl rfl ?_
 intro b3 ak
 refine Ab ?_
 exact Be (fl rfl) (ih ((IntKind.wrap .i64 (g + o)), ()) _ ak H)}}}
 {
 have H := Av u H
 obtain rfl := so H
 refine Aw ?_
 refine And.intro rfl (Ret.mk rfl ?_)
 exact ⟨rfl, e⟩}}}}}
 {
 have H := Av p H
 refine D9 ?_
 obtain rfl := so H
 exact And.intro rfl ⟨h, (.nil')⟩}}}
 {
 rcases a1 with a2 | bb
 {
 intro x b4 b5 hJ
 obtain ⟨rfl, al, am⟩ := hJ
 obtain rfl := so H
 refine Ret.mkNφ (C := cfg) (fn := Tryz.f21) am rfl ?_
 exact ⟨rfl, al⟩}
 {
 intro x b6 b7 hJ
 obtain rfl := so H
 obtain ⟨rfl, hr⟩ := hJ
 exact hr}}

theorem D2 {n : Nat} {a : Int} {R : List Res} {σ : St} (hp : Hp σ R) {r : (PR Unit A3)} (H : Il n a = some r) : CaO cfg 22 [(vI a)] σ (gsexp_wrong_post R r) := by
 unfold Il at H
 refine CaO.enterL (G := [(0, (vI a))]) Tryz.func22 rfl rfl rfl rfl (Aa (V rfl ?_))
 refine W (Bh (Am rfl rfl rfl rfl rfl (Am rfl rfl rfl rfl rfl Bc)) rfl (Ak rfl rfl (Ak rfl rfl rfl)) Tryz.underlying54 rfl rfl) rfl ?_
 refine W (op_iface rfl rfl Tryz.underlying54 rfl) rfl (Eo.panic rfl rfl rfl ?_)
 obtain rfl := so H
 exact Fin.pan (C := cfg) (fn := Tryz.f22) ⟨rfl, hp⟩

theorem gsexp_parser__count_ok {n : Nat} {b : Nat} {c : ByteArray} {d : Int} {a : Int} {f : Int} {R : List Res} {σ : St} (hp : Hp σ (.blk b (.cells [(vS c), (vI d), (vI a)] 57) :: R)) {r : (PR Int A3)} (H : H7 n c d a f = some r) : CaO cfg 23 [(.ptr b 0), (vI f)] σ (J4 b c d R r) := by
 unfold H7 at H
 refine CaO.enterL (G := [(0, (.ptr b 0)), (1, (vI f))]) Tryz.func23 rfl rfl rfl rfl (Ac (Aa ?_))
 iterate 3 refine V rfl ?_
 refine W (Ag hp 0 rfl rfl rfl rfl) rfl ?_
 iterate 3 refine V rfl ?_
 refine Al hp 0 rfl (Af rfl rfl rfl rfl rfl rfl) rfl rfl rfl rfl rfl ?_
 intro q e
 refine Ab (Ac (Aa ?_))
 iterate 3 refine V rfl ?_
 refine W (Ag e 0 rfl rfl rfl rfl) rfl (V rfl (V rfl ?_))
 refine Gr 3 [(0, (.ptr b 0)), (19, (vB ((decide ((IntKind.wrap .i64 (a + 1)) > 65536)) || (decide (f > 32)))))] ?_ ?_
 {
 cases u : (decide ((IntKind.wrap .i64 (a + 1)) > 65536))
 {
 iterate 3 refine V rfl ?_
 exact Ab (nn (fl rfl))}
 {
 refine Co rfl rfl rfl (Co rfl rfl rfl (V rfl ?_))
 exact Ab (nn (fl rfl))}}
 {
 refine Ab ?_
 obtain ⟨h, i, H⟩ := bind_some H
 refine A4 (J := (fun (v : LR Unit (PR Int A3)) (x : X) (φ : Fr) (s : St) => match v with | .out _ => x = .normal ∧ (Hp s (.blk b (.cells [(vS c), (vI d), (vI (IntKind.wrap .i64 (a + 1)))] 57) :: R) ∧ Fl [] φ) | .ret r => FinR cfg Tryz.f23 (J4 b c d R r) x φ s) h) ?_ ?_
 {
 have H := i
 refine An (t := ((decide ((IntKind.wrap .i64 (a + 1)) > 65536)) || (decide (f > 32)))) rfl (fun g => ?_) (fun g => ?_)
 {
 have H := Au g H
 refine Aa ?_
 iterate 3 refine V rfl ?_
 refine W (Ag e 0 rfl rfl rfl rfl) rfl ?_
 refine W (Bh (Am rfl rfl rfl rfl rfl (Am rfl rfl rfl rfl rfl Bc)) rfl (Ak rfl rfl (Ak rfl rfl rfl)) Tryz.underlying54 rfl rfl) rfl ?_
 refine W (op_iface rfl rfl Tryz.underlying54 rfl) rfl (Eo.panic rfl rfl rfl ?_)
 obtain rfl := so H
 exact Fin.pan (C := cfg) (fn := Tryz.f23) ⟨rfl, (Hp.pick e 1 [] rfl)⟩}
 {
 have H := Av g H
 refine A7 ?_
 obtain rfl := so H
 exact And.intro rfl ⟨e, (.nil')⟩}}
 {
 rcases h with _ | w
 {
 intro x l m hJ
 obtain ⟨rfl, j, k⟩ := hJ
 obtain rfl := so H
 refine Fin.mkNφ (C := cfg) (fn := Tryz.f23) k rfl ?_
 exact ⟨rfl, j⟩}
 {
 intro x o p hJ
 obtain rfl := so H
 cases x <;> first | exact hJ | exact hJ.elim}}}

theorem Ko {n : Nat} {a : Nat} {b : ByteArray} {c : Int} {d : Int} {R : List Res} {σ : St} (hp : Hp σ (.blk a (.cells [(vS b), (vI c), (vI d)] 57) :: R)) {r : (PR (Ae × Int) A3)} (H : E9 n b c d = some r) : CaO cfg 24 [(.ptr a 0)] σ (Hv a b d R r) := by
 unfold E9 at H
 refine CaO.enterL (G := [(0, (.ptr a 0))]) Tryz.func24 rfl rfl rfl rfl (Ac (Aa (Cs (z := [(vI 0), (vS (ByteArray.mk #[])), (vI 0), A5]) hp rfl rfl rfl rfl rfl ?_)))
 intro e bh ak
 refine Ab (Ac (Ac (Aa ?_)))
 iterate 3 refine V rfl ?_
 refine W (Ag ak 1 rfl rfl rfl rfl) rfl (V rfl (V rfl (Ab (Bb ?_))))
 obtain ⟨a2, a5, H⟩ := bind_some H
 refine A4 (J := _) (D8 (fl rfl) (Cw (f := (fun m (i : Int × Unit) => Cc n b c m i.1)) (G := (fun (i : Int × Unit) => ([(0, (.ptr a 0)), (2, (.ptr e 0)), (3, (vI i.1))] : List (Nat × A)))) (I := (fun (i : Int × Unit) (s : St) => Hp s (.blk a (.cells [(vS b), (vI c), (vI d)] 57) :: .blk e (.cells [(vI 0), (vS (ByteArray.mk #[])), (vI 0), A5] 64) :: R))) (J := (fun (v : LR Unit (PR (Ae × Int) A3)) (x : X) (φ : Fr) (s : St) => match v with | .out _ => x = (.exit 0) ∧ (Hp s (.blk a (.cells [(vS b), (vI c), (vI d)] 57) :: .blk e (.cells [(vI 0), (vS (ByteArray.mk #[])), (vI 0), A5] 64) :: R) ∧ Fl [(0, (.ptr a 0)), (2, (.ptr e 0))] φ) | .ret r => FinR cfg Tryz.f24 (Hv a b d R r) x φ s)) (fun _ => rfl) ?_ n ((IntKind.wrap .i64 (c + 1)), ()) _ a2 (Hp.pick ak 2 [1, 0] rfl) a5)) ?_
 {
 rintro m ⟨j, _⟩ an v g H ih
 change Cc n b c (m + 1) j = some v at H
 rw [Cc] at H
 change Ec _ _ _ [(0, (.ptr a 0)), (2, (.ptr e 0)), (3, (vI j))] an _
 refine Ac (Ac (Aa ?_))
 iterate 4 refine V rfl ?_
 refine W (Ag g 0 rfl rfl rfl rfl) rfl (W (Ic rfl rfl rfl rfl rfl Tryz.underlying9) rfl (V rfl (Ab ?_)))
 refine An (t := (decide (j < ((b.size : Nat) : Int)))) rfl (fun k => ?_) (fun k => ?_)
 {
 have H := Au k H
 refine A7 (Ac ?_)
 obtain ⟨a3, a6, H⟩ := bind_some H
 refine A4 (J := (fun (v : LX Unit Unit (PR (Ae × Int) A3)) (x : X) (φ : Fr) (s : St) => match v with | .out _ => x = .normal ∧ (Hp s (.blk a (.cells [(vS b), (vI c), (vI d)] 57) :: .blk e (.cells [(vI 0), (vS (ByteArray.mk #[])), (vI 0), A5] 64) :: R) ∧ Fl [(0, (.ptr a 0)), (2, (.ptr e 0)), (3, (vI j))] φ) | .ex _ => x = (.exit 0) ∧ (Hp s (.blk a (.cells [(vS b), (vI c), (vI d)] 57) :: .blk e (.cells [(vI 0), (vS (ByteArray.mk #[])), (vI 0), A5] 64) :: R) ∧ Fl [(0, (.ptr a 0)), (2, (.ptr e 0))] φ) | .ret r => FinR cfg Tryz.f24 (Hv a b d R r) x φ s) a3) ?_ ?_
 {
 have H := a6
 refine Bb (Ac (Aa ?_))
 iterate 3 refine V rfl ?_
 refine W (Ag g 0 rfl rfl rfl rfl) rfl (V rfl ?_)
 obtain ⟨h, hvb186, H⟩ := bind_some H
 refine W (op_byteS hvb186 rfl rfl rfl Tryz.underlying9) rfl (V rfl (Ab (Ac (Ac (Aa ?_)))))
 refine V rfl (V rfl (Ab ?_))
 refine An (t := (h == 34)) rfl (fun l => ?_) (fun l => ?_)
 {
 have H := Au l H
 refine Ac ?_
 obtain ⟨o, a7, H⟩ := bind_some H
 refine A4 (J := (fun (o : ByteArray) (x : X) (φ : Fr) (s : St) => x = .normal ∧ (Hp s (.blk a (.cells [(vS b), (vI c), (vI d)] 57) :: .blk e (.cells [(vI 0), (vS (ByteArray.mk #[])), (vI 0), A5] 64) :: R) ∧ Fl [(0, (.ptr a 0)), (2, (.ptr e 0)), (3, (vI j)), (5, (vS o))] φ)) o) ?_ ?_
 {
 have H := a7
 refine Fv (by kernel_rfl) ?_
 iterate 3 refine V rfl ?_
 refine W (Ag g 0 rfl rfl rfl rfl) rfl ?_
 iterate 3 refine V rfl ?_
 refine W (Ag g 0 rfl rfl rfl rfl) rfl (V rfl (V rfl ?_))
 obtain ⟨ba, a4, H⟩ := bind_some H
 refine W (op_partS a4 rfl rfl Tryz.underlying9 (.inr ⟨_, _, rfl, rfl⟩) (.inr ⟨_, _, rfl, rfl⟩)) rfl (V rfl (Ab ?_))
 obtain rfl := so H
 exact And.intro rfl (And.intro rfl ⟨g, (fl rfl)⟩)}
 {
 intro x ao ap hJ
 obtain ⟨rfl, a8, a9⟩ := hJ
 refine Be (F := [(0, (.ptr a 0)), (2, (.ptr e 0)), (3, (vI j)), (5, (vS o))]) a9 (Ac (Aa ?_))
 iterate 5 refine V rfl ?_
 refine Al a8 0 rfl (Af rfl rfl rfl rfl rfl rfl) rfl rfl rfl rfl rfl ?_
 intro aq aa
 refine Ab (Ac (Aa (V rfl ?_)))
 refine W (Bh (Am rfl rfl rfl rfl rfl (Am rfl rfl rfl rfl rfl Bc)) rfl (Ak rfl rfl (Ak rfl rfl rfl)) Tryz.underlying64 rfl rfl) rfl ?_
 refine Al aa 1 rfl (Af rfl rfl rfl rfl rfl rfl) rfl rfl rfl rfl rfl ?_
 intro ar w
 refine Ab ?_
 obtain rfl := so H
 refine Aw (Fin.mk' (Bf w 1 rfl rfl rfl rfl) ?_)
 exact ⟨A5, rfl, Sl.nil, (Hp.pick (As w 64) 3 [1, 0] rfl)⟩}}
 {
 have H := Av l H
 refine A7 (Ac (Ac (Aa (V rfl (V rfl ?_)))))
 refine Ab ?_
 refine An (t := (h == 10)) rfl (fun p => ?_) (fun p => ?_)
 {
 have H := Au p H
 refine D9 ?_
 obtain rfl := so H
 exact And.intro rfl ⟨g, (fl rfl)⟩}
 {
 have H := Av p H
 refine A7 (Ac (Aa ?_))
 iterate 3 refine V rfl ?_
 refine Gr 3 [(0, (.ptr a 0)), (2, (.ptr e 0)), (3, (vI j)), (53, (vB ((decide (h < 32)) || (decide (h > 126)))))] ?_ ?_
 {
 cases au : (decide (h < 32))
 {
 iterate 3 refine V rfl ?_
 exact Ab (nn (fl rfl))}
 {
 refine Co rfl rfl rfl (Co rfl rfl rfl (V rfl ?_))
 exact Ab (nn (fl rfl))}}
 {
 refine Ab ?_
 refine An (t := ((decide (h < 32)) || (decide (h > 126)))) rfl (fun q => ?_) (fun q => ?_)
 {
 have H := Au q H
 refine Aa (V rfl ?_)
 obtain ⟨al, y, H⟩ := bind_some H
 rcases al with bb | bc
 {
 refine Ai (D2 g y) rfl rfl rfl rfl ?_
 rintro _ av ⟨rfl, ab⟩
 refine Ab ?_
 obtain rfl := so H
 exact And.intro rfl ⟨ab, (fl rfl)⟩}
 {
 refine Aj (D2 g y) rfl rfl ?_
 intro aw ac
 obtain rfl := so H
 exact Fin.pan (C := cfg) (fn := Tryz.f24) ⟨rfl, (Hp.pick ac 2 [] rfl)⟩}}
 {
 have H := Av q H
 refine A7 ?_
 obtain rfl := so H
 exact And.intro rfl ⟨g, (fl rfl)⟩}}}}}
 {
 rcases a3 with _ | _ | bd
 {
 intro x ax ay hJ
 obtain ⟨rfl, ad, ae⟩ := hJ
 refine Be (F := [(0, (.ptr a 0)), (2, (.ptr e 0)), (3, (vI j))]) ae (Aa ?_)
 iterate 3 refine V rfl ?_
 refine Ab ?_
 exact Be (fl rfl) (ih ((IntKind.wrap .i64 (j + 1)), ()) _ ad H)}
 {
 intro x az b0 hJ
 obtain ⟨rfl, af, ag⟩ := hJ
 obtain rfl := so H
 exact And.intro rfl ⟨af, (Fl.trans (G := [(0, (.ptr a 0)), (2, (.ptr e 0))]) (fl rfl) ag)⟩}
 {
 intro x b1 b2 hJ
 obtain rfl := so H
 cases x <;> first | exact hJ | exact hJ.elim}}}
 {
 have H := Av k H
 refine D9 ?_
 obtain rfl := so H
 exact And.intro rfl ⟨g, (fl rfl)⟩}}
 {
 rcases a2 with _ | be
 {
 intro x b3 b4 hJ
 obtain ⟨rfl, u, ah⟩ := hJ
 refine Be (F := [(0, (.ptr a 0)), (2, (.ptr e 0))]) ah (Ac (Aa ?_))
 iterate 3 refine V rfl ?_
 refine W (Ag u 0 rfl rfl rfl rfl) rfl ?_
 obtain ⟨am, a0, H⟩ := bind_some H
 rcases am with bf | bg
 {
 refine Ai (D2 u a0) rfl rfl rfl rfl ?_
 rintro _ b5 ⟨rfl, ai⟩
 refine Ab (Ac (Aa ?_))
 refine W (Bh Bc rfl rfl Tryz.underlying64 rfl rfl) rfl ?_
 refine Al ai 1 rfl (Af rfl rfl rfl rfl rfl rfl) rfl rfl rfl rfl rfl ?_
 intro b6 a1
 refine Ab ?_
 obtain rfl := so H
 refine Aw (Fin.mk' (Bf a1 1 rfl rfl rfl rfl) ?_)
 exact ⟨A5, rfl, Sl.nil, (Hp.pick (As a1 64) 3 [1, 0] rfl)⟩}
 {
 refine Aj (D2 u a0) rfl rfl ?_
 intro b7 aj
 obtain rfl := so H
 exact Fin.pan (C := cfg) (fn := Tryz.f24) ⟨rfl, (Hp.pick aj 2 [] rfl)⟩}}
 {
 intro x b8 b9 hJ
 obtain rfl := so H
 cases x <;> first | exact hJ | exact hJ.elim}}

theorem F5 {n : Nat} {c : Nat} {a : ByteArray} {b : Int} {d : Int} {h : Int} {R : List Res} {σ : St} (hp : Hp σ (.blk c (.cells [(vS a), (vI b), (vI d)] 57) :: R)) {r : (PR Int A3)} (H : Ew n a b d h = some r) : CaO cfg 25 [(.ptr c 0), (vI h)] σ (Jk c a b R r) := by
 unfold Ew at H
 refine CaO.enterL (G := [(0, (.ptr c 0)), (1, (vI h))]) Tryz.func25 rfl rfl rfl rfl (Ac (Aa ?_))
 iterate 3 refine V rfl ?_
 refine W (Ag hp 0 rfl rfl rfl rfl) rfl ?_
 iterate 3 refine V rfl ?_
 refine Al hp 0 rfl (Af rfl rfl rfl rfl rfl rfl) rfl rfl rfl rfl rfl ?_
 intro o e
 refine Ab (Ac (Aa ?_))
 iterate 3 refine V rfl ?_
 refine W (Ag e 0 rfl rfl rfl rfl) rfl (V rfl (Ab ?_))
 obtain ⟨g, i, H⟩ := bind_some H
 refine A4 (J := (fun (v : LR Unit (PR Int A3)) (x : X) (φ : Fr) (s : St) => match v with | .out _ => x = .normal ∧ (Hp s (.blk c (.cells [(vS a), (vI b), (vI (IntKind.wrap .i64 (d + 1)))] 57) :: R) ∧ Fl [] φ) | .ret r => FinR cfg Tryz.f25 (Jk c a b R r) x φ s) g) ?_ ?_
 {
 have H := i
 refine An (t := (decide ((IntKind.wrap .i64 (d + 1)) > 65536))) rfl (fun f => ?_) (fun f => ?_)
 {
 have H := Au f H
 refine Aa (V rfl ?_)
 refine W (Bh (Am rfl rfl rfl rfl rfl (Am rfl rfl rfl rfl rfl Bc)) rfl (Ak rfl rfl (Ak rfl rfl rfl)) Tryz.underlying54 rfl rfl) rfl ?_
 refine W (op_iface rfl rfl Tryz.underlying54 rfl) rfl (Eo.panic rfl rfl rfl ?_)
 obtain rfl := so H
 exact Fin.pan (C := cfg) (fn := Tryz.f25) ⟨rfl, (Hp.pick e 1 [] rfl)⟩}
 {
 have H := Av f H
 refine A7 ?_
 obtain rfl := so H
 exact And.intro rfl ⟨e, (.nil')⟩}}
 {
 rcases g with _ | u
 {
 intro x p q hJ
 obtain ⟨rfl, j, k⟩ := hJ
 obtain rfl := so H
 refine Fin.mkNφ (C := cfg) (fn := Tryz.f25) k rfl ?_
 exact ⟨rfl, j⟩}
 {
 intro x l m hJ
 obtain rfl := so H
 cases x <;> first | exact hJ | exact hJ.elim}}

theorem gsexp_within_ok {n : Nat} {a : Int} {R : List Res} {σ : St} (hp : Hp σ R) {r : Bool} (H : Jt n a = some r) : Ca cfg 63 [(.v (.int .u8 a))] σ (gsexp_within_post R r) := by
 unfold Jt at H
 refine Ca.enterL (G := [(0, (.v (.int .u8 a)))]) Tryz.func63 rfl rfl rfl rfl (Ac (Aa (V rfl (Ab (Ac ?_)))))
 refine Aa ?_
 iterate 3 refine V rfl ?_
 refine Gr 3 [(0, (.v (.int .u8 a))), (2, (vB false)), (8, (vB ((decide (a > 32)) && (decide (a < 127)))))] ?_ ?_
 {
 cases l : (decide (a > 32))
 {
 refine Co rfl rfl rfl (Co rfl rfl rfl (V rfl ?_))
 exact Ab (nn (fl rfl))}
 {
 iterate 3 refine V rfl ?_
 exact Ab (nn (fl rfl))}}
 {
 refine V rfl ?_
 obtain ⟨b, e, H⟩ := bind_some H
 refine H1 5 (J := (fun (b : Bool) (x : X) (φ : Fr) (s : St) => x = .normal ∧ (Hp s R ∧ Fl [(2, (vB false)), (14, (vB b))] φ)) b) ?_ ?_
 {
 have H := e
 cases c : ((decide (a > 32)) && (decide (a < 127)))
 {
 have H := Av c H
 iterate 4 refine Co rfl rfl rfl ?_
 refine V rfl (Ab ?_)
 obtain rfl := so H
 exact And.intro rfl ⟨hp, (fl rfl)⟩}
 {
 have H := Au c H
 refine V rfl (V rfl ?_)
 obtain ⟨m, d, H⟩ := bind_some H
 refine A2 rfl rfl rfl rfl (prim103_ok hp d) ?_
 rintro _ i ⟨rfl, f⟩
 refine V rfl (V rfl (Ab ?_))
 obtain rfl := so H
 exact And.intro rfl ⟨f, (fl rfl)⟩}}
 {
 intro x j k hJ
 obtain ⟨rfl, g, h⟩ := hJ
 refine ⟨rfl, Eo.of (F := [(2, (vB false)), (14, (vB b))]) h ?_⟩
 refine V rfl (Ab ?_)
 obtain rfl := so H
 refine Aw (Ret.mk rfl ?_)
 exact ⟨rfl, g⟩}}

theorem gsexp_numeric_ok {n : Nat} {d : ByteArray} {R : List Res} {σ : St} (hp : Hp σ R) {r : Bool} (H : J5 n d = some r) : Ca cfg 64 [(vS d)] σ (gsexp_numeric_post R r) := by
 unfold J5 at H
 refine Ca.enterL (G := [(0, (vS d))]) Tryz.func64 rfl rfl rfl rfl (Ac (Aa (V rfl (Ab (Ac ?_)))))
 refine Aa (V rfl ?_)
 obtain ⟨h, hvb1, H⟩ := bind_some H
 refine W (op_byteS hvb1 rfl rfl rfl Tryz.underlying9) rfl (V rfl (V rfl ?_))
 obtain ⟨a, e, H⟩ := bind_some H
 refine H1 9 (J := (fun (a : Bool) (x : X) (φ : Fr) (s : St) => x = .normal ∧ (Hp s R ∧ Fl [(2, (vB false)), (15, (vB a))] φ)) a) ?_ ?_
 {
 have H := e
 cases b : (h == 45)
 {
 have H := Av b H
 refine V rfl ?_
 obtain ⟨i, hvb8, H⟩ := bind_some H
 refine W (op_byteS hvb8 rfl rfl rfl Tryz.underlying9) rfl (V rfl (V rfl ?_))
 cases c : (decide (i ≥ 48))
 {
 have H := Av c H
 iterate 3 refine Co rfl rfl rfl ?_
 refine V rfl (V rfl (Ab ?_))
 obtain rfl := so H
 exact And.intro rfl ⟨hp, (fl rfl)⟩}
 {
 have H := Au c H
 refine V rfl ?_
 obtain ⟨l, hvb10, H⟩ := bind_some H
 refine W (op_byteS hvb10 rfl rfl rfl Tryz.underlying9) rfl ?_
 iterate 3 refine V rfl ?_
 refine Ab ?_
 obtain rfl := so H
 exact And.intro rfl ⟨hp, (fl rfl)⟩}}
 {
 have H := Au b H
 iterate 8 refine Co rfl rfl rfl ?_
 refine V rfl (Ab ?_)
 obtain rfl := so H
 exact And.intro rfl ⟨hp, (fl rfl)⟩}}
 {
 intro x j k hJ
 obtain ⟨rfl, f, g⟩ := hJ
 refine ⟨rfl, Eo.of (F := [(2, (vB false)), (15, (vB a))]) g ?_⟩
 refine V rfl (Ab ?_)
 obtain rfl := so H
 refine Aw (Ret.mk rfl ?_)
 exact ⟨rfl, f⟩}

theorem gsexp_number_ok {n : Nat} {c : ByteArray} {R : List Res} {σ : St} (hp : Hp σ R) {r : (Int × Bool)} (H : Gs n c = some r) : Ca cfg 65 [(vS c)] σ (gsexp_number_post R r) := by
 unfold Gs at H
 refine Ca.enterL (G := [(0, (vS c))]) Tryz.func65 rfl rfl rfl rfl (Ac (Aa (V rfl (V rfl (Ab ?_)))))
 refine Ac (Aa (V rfl ?_))
 obtain ⟨m, h, H⟩ := bind_some H
 refine A2 rfl rfl rfl rfl (prim104_ok hp h) ?_
 obtain ⟨a, d⟩ := m
 rintro _ u ⟨rfl, g⟩
 iterate 5 refine V rfl ?_
 refine Ab (Ac (Aa (V rfl (V rfl (W (op_eqErr rfl rfl rfl Tryz.underlying94 rfl) rfl ?_)))))
 refine V rfl ?_
 refine Gr 3 [(0, (vS c)), (2, (vI 0)), (3, (vB false)), (4, (vI a)), (11, (vI a)), (17, (vB ((!d) && (decide (a ≥ (-999999999999999999))))))] ?_ ?_
 {
 cases v : (!d)
 {
 refine Co rfl rfl rfl (Co rfl rfl rfl (V rfl ?_))
 exact Ab (nn (fl rfl))}
 {
 iterate 3 refine V rfl ?_
 exact Ab (nn (fl rfl))}}
 {
 refine V rfl ?_
 refine Gr 3 [(0, (vS c)), (2, (vI 0)), (3, (vB false)), (4, (vI a)), (11, (vI a)), (21, (vB (((!d) && (decide (a ≥ (-999999999999999999)))) && (decide (a ≤ 999999999999999999)))))] ?_ ?_
 {
 cases o : ((!d) && (decide (a ≥ (-999999999999999999))))
 {
 refine Co rfl rfl rfl (Co rfl rfl rfl (V rfl ?_))
 exact Ab (nn (fl rfl))}
 {
 iterate 3 refine V rfl ?_
 exact Ab (nn (fl rfl))}}
 {
 refine V rfl ?_
 obtain ⟨b, i, H⟩ := bind_some H
 refine H1 5 (J := (fun (b : Bool) (x : X) (φ : Fr) (s : St) => x = .normal ∧ (Hp s R ∧ Fl [(2, (vI 0)), (3, (vB false)), (11, (vI a)), (27, (vB b))] φ)) b) ?_ ?_
 {
 have H := i
 cases e : (((!d) && (decide (a ≥ (-999999999999999999)))) && (decide (a ≤ 999999999999999999)))
 {
 have H := Av e H
 iterate 4 refine Co rfl rfl rfl ?_
 refine V rfl (Ab ?_)
 obtain rfl := so H
 exact And.intro rfl ⟨g, (fl rfl)⟩}
 {
 have H := Au e H
 refine V rfl ?_
 obtain ⟨w, f, H⟩ := bind_some H
 refine A2 rfl rfl rfl rfl (prim92_ok g f) ?_
 rintro _ p ⟨rfl, j⟩
 refine V rfl (W (B9 rfl (Bi _ _)) rfl (V rfl (Ab ?_)))
 obtain rfl := so H
 exact And.intro rfl ⟨j, (fl rfl)⟩}}
 {
 intro x q t hJ
 obtain ⟨rfl, k, l⟩ := hJ
 refine ⟨rfl, Eo.of (F := [(2, (vI 0)), (3, (vB false)), (11, (vI a)), (27, (vB b))]) l ?_⟩
 refine V rfl (V rfl (Ab ?_))
 obtain rfl := so H
 refine Aw (Ret.mk rfl ?_)
 exact ⟨rfl, k⟩}}}

theorem gsexp_parser__run_ok {n : Nat} {a : Nat} {b : ByteArray} {d : Int} {c : Int} {R : List Res} {σ : St} (hp : Hp σ (.blk a (.cells [(vS b), (vI d), (vI c)] 57) :: R)) {r : (PR (Ae × Int) A3)} (H : Gi n b d c = some r) : CaO cfg 26 [(.ptr a 0)] σ (Is a b c R r) := by
 unfold Gi at H
 refine CaO.enterL (G := [(0, (.ptr a 0))]) Tryz.func26 rfl rfl rfl rfl (Ac (Aa (Cs (z := [(vI 0), (vS (ByteArray.mk #[])), (vI 0), A5]) hp rfl rfl rfl rfl rfl ?_)))
 intro e c1 ao
 refine Ab (Ac (Aa ?_))
 iterate 3 refine V rfl ?_
 refine W (Ag ao 1 rfl rfl rfl rfl) rfl (V rfl (Ab (Ac (Bb ?_))))
 obtain ⟨g, ap, H⟩ := bind_some H
 refine A4 (J := _) (D8 (fl rfl) (Cw (f := (fun m (i : Int × Unit) => Di n b m i.1)) (G := (fun (i : Int × Unit) => ([(0, (.ptr a 0)), (2, (.ptr e 0)), (3, (vI i.1))] : List (Nat × A)))) (I := (fun (i : Int × Unit) (s : St) => Hp s (.blk a (.cells [(vS b), (vI d), (vI c)] 57) :: .blk e (.cells [(vI 0), (vS (ByteArray.mk #[])), (vI 0), A5] 64) :: R))) (J := (fun (g : Int) (x : X) (φ : Fr) (s : St) => x = (.exit 0) ∧ (Hp s (.blk a (.cells [(vS b), (vI d), (vI c)] 57) :: .blk e (.cells [(vI 0), (vS (ByteArray.mk #[])), (vI 0), A5] 64) :: R) ∧ Fl [(0, (.ptr a 0)), (2, (.ptr e 0)), (3, (vI g))] φ))) (fun _ => rfl) ?_ n (d, ()) _ g (Hp.pick ao 2 [1, 0] rfl) ap)) ?_
 {
 rintro m ⟨k, _⟩ b4 v a0 H ih
 change Di n b (m + 1) k = some v at H
 rw [Di] at H
 change Ec _ _ _ [(0, (.ptr a 0)), (2, (.ptr e 0)), (3, (vI k))] b4 _
 refine Ac (Ac (Aa ?_))
 iterate 4 refine V rfl ?_
 refine W (Ag a0 0 rfl rfl rfl rfl) rfl (W (Ic rfl rfl rfl rfl rfl Tryz.underlying9) rfl (V rfl (V rfl ?_)))
 obtain ⟨q, aq, H⟩ := bind_some H
 refine H1 8 (J := (fun (q : Bool) (x : X) (φ : Fr) (s : St) => x = .normal ∧ (Hp s (.blk a (.cells [(vS b), (vI d), (vI c)] 57) :: .blk e (.cells [(vI 0), (vS (ByteArray.mk #[])), (vI 0), A5] 64) :: R) ∧ Fl [(0, (.ptr a 0)), (2, (.ptr e 0)), (3, (vI k)), (26, (vB q))] φ)) q) ?_ ?_
 {
 have H := aq
 cases a4 : (decide (k < ((b.size : Nat) : Int)))
 {
 have H := Av a4 H
 iterate 7 refine Co rfl rfl rfl ?_
 refine V rfl (Ab ?_)
 obtain rfl := so H
 exact And.intro rfl ⟨a0, (fl rfl)⟩}
 {
 have H := Au a4 H
 iterate 3 refine V rfl ?_
 refine W (Ag a0 0 rfl rfl rfl rfl) rfl (V rfl ?_)
 obtain ⟨c2, hvb51, H⟩ := bind_some H
 refine W (op_byteS hvb51 rfl rfl rfl Tryz.underlying9) rfl ?_
 obtain ⟨c3, ac, H⟩ := bind_some H
 refine A2 rfl rfl rfl rfl (gsexp_within_ok a0 ac) ?_
 rintro _ bk ⟨rfl, ar⟩
 refine V rfl (Ab ?_)
 obtain rfl := so H
 exact And.intro rfl ⟨ar, (fl rfl)⟩}}
 {
 intro x bl bm hJ
 obtain ⟨rfl, a5, au⟩ := hJ
 refine ⟨rfl, Eo.of (F := [(0, (.ptr a 0)), (2, (.ptr e 0)), (3, (vI k)), (26, (vB q))]) au ?_⟩
 refine Ab ?_
 refine An (t := q) rfl (fun u => ?_) (fun u => ?_)
 {
 have H := Au u H
 refine A7 (Bb (Aa ?_))
 iterate 3 refine V rfl ?_
 refine Ab ?_
 exact Be (fl rfl) (ih ((IntKind.wrap .i64 (k + 1)), ()) _ a5 H)}
 {
 have H := Av u H
 refine D9 ?_
 obtain rfl := so H
 exact And.intro rfl ⟨a5, (fl rfl)⟩}}}
 {
 intro x bn bo hJ
 obtain ⟨rfl, w, av⟩ := hJ
 refine Be (F := [(0, (.ptr a 0)), (2, (.ptr e 0)), (3, (vI g))]) av (Ac ?_)
 obtain ⟨j, ad, H⟩ := bind_some H
 refine A4 (J := (fun (j : ByteArray) (x : X) (φ : Fr) (s : St) => x = .normal ∧ (Hp s (.blk a (.cells [(vS b), (vI d), (vI c)] 57) :: .blk e (.cells [(vI 0), (vS (ByteArray.mk #[])), (vI 0), A5] 64) :: R) ∧ Fl [(0, (.ptr a 0)), (2, (.ptr e 0)), (3, (vI g)), (4, (vS j))] φ)) j) ?_ ?_
 {
 have H := ad
 refine Fv (by kernel_rfl) ?_
 iterate 3 refine V rfl ?_
 refine W (Ag w 0 rfl rfl rfl rfl) rfl ?_
 iterate 3 refine V rfl ?_
 refine W (Ag w 0 rfl rfl rfl rfl) rfl (V rfl ?_)
 obtain ⟨c4, ae, H⟩ := bind_some H
 refine W (op_partS ae rfl rfl Tryz.underlying9 (.inr ⟨_, _, rfl, rfl⟩) (.inr ⟨_, _, rfl, rfl⟩)) rfl (V rfl (Ab ?_))
 obtain rfl := so H
 exact And.intro rfl (And.intro rfl ⟨w, (fl rfl)⟩)}
 {
 intro x bp bq hJ
 obtain ⟨rfl, l, aw⟩ := hJ
 refine Be (F := [(0, (.ptr a 0)), (2, (.ptr e 0)), (3, (vI g)), (4, (vS j))]) aw (Ac (Ac (Aa (V rfl (W (B9 rfl (Bi _ _)) rfl ?_)))))
 refine Ab ?_
 obtain ⟨a6, af, H⟩ := bind_some H
 refine A4 (J := (fun (v : LR Unit (PR (Ae × Int) A3)) (x : X) (φ : Fr) (s : St) => match v with | .out _ => x = .normal ∧ (Hp s (.blk a (.cells [(vS b), (vI d), (vI c)] 57) :: .blk e (.cells [(vI 0), (vS (ByteArray.mk #[])), (vI 0), A5] 64) :: R) ∧ Fl [(0, (.ptr a 0)), (2, (.ptr e 0)), (3, (vI g)), (4, (vS j))] φ) | .ret r => FinR cfg Tryz.f26 (Is a b c R r) x φ s) a6) ?_ ?_
 {
 have H := af
 refine An (t := (decide (j = (ByteArray.mk #[])))) rfl (fun y => ?_) (fun y => ?_)
 {
 have H := Au y H
 refine Aa ?_
 iterate 3 refine V rfl ?_
 refine W (Ag l 0 rfl rfl rfl rfl) rfl ?_
 obtain ⟨b5, a7, H⟩ := bind_some H
 rcases b5 with c5 | c6
 {
 refine Ai (D2 l a7) rfl rfl rfl rfl ?_
 rintro _ br ⟨rfl, ax⟩
 refine Ab ?_
 obtain rfl := so H
 exact And.intro rfl ⟨ax, (fl rfl)⟩}
 {
 refine Aj (D2 l a7) rfl rfl ?_
 intro bs ay
 obtain rfl := so H
 exact Fin.pan (C := cfg) (fn := Tryz.f26) ⟨rfl, (Hp.pick ay 2 [] rfl)⟩}}
 {
 have H := Av y H
 refine A7 ?_
 obtain rfl := so H
 exact And.intro rfl ⟨l, (fl rfl)⟩}}
 {
 rcases a6 with _ | bt
 {
 intro x bu bv hJ
 obtain ⟨rfl, az, b0⟩ := hJ
 refine Be (F := [(0, (.ptr a 0)), (2, (.ptr e 0)), (3, (vI g)), (4, (vS j))]) b0 (Ac (Ac (Aa (V rfl ?_))))
 obtain ⟨b6, ag, H⟩ := bind_some H
 refine A2 rfl rfl rfl rfl (gsexp_numeric_ok az ag) ?_
 rintro _ bw ⟨rfl, a8⟩
 refine V rfl (Ab ?_)
 refine An (t := (!b6)) rfl (fun o => ?_) (fun o => ?_)
 {
 have H := Au o H
 refine Ac (Aa ?_)
 iterate 4 refine V rfl ?_
 refine Al a8 0 rfl (Af rfl rfl rfl rfl rfl rfl) rfl rfl rfl rfl rfl ?_
 intro b7 ah
 refine Ab (Ac (Aa (V rfl ?_)))
 refine W (Bh (Am rfl rfl rfl rfl rfl (Am rfl rfl rfl rfl rfl Bc)) rfl (Ak rfl rfl (Ak rfl rfl rfl)) Tryz.underlying64 rfl rfl) rfl ?_
 refine Al ah 1 rfl (Af rfl rfl rfl rfl rfl rfl) rfl rfl rfl rfl rfl ?_
 intro b8 a1
 refine Ab ?_
 obtain rfl := so H
 refine Aw (Fin.mk' (Bf a1 1 rfl rfl rfl rfl) ?_)
 exact ⟨A5, rfl, Sl.nil, (Hp.pick (As a1 64) 3 [1, 0] rfl)⟩}
 {
 have H := Av o H
 refine A7 (Ac (Aa (V rfl ?_)))
 obtain ⟨b1, a9, H⟩ := bind_some H
 refine A2 rfl rfl rfl rfl (gsexp_number_ok a8 a9) ?_
 obtain ⟨aa, b2⟩ := b1
 rintro _ b9 ⟨rfl, h⟩
 iterate 5 refine V rfl ?_
 refine Ab (Ac (Ac (Aa (V rfl (V rfl ?_)))))
 refine Ab ?_
 obtain ⟨ab, ai, H⟩ := bind_some H
 refine A4 (J := (fun (v : LR Unit (PR (Ae × Int) A3)) (x : X) (φ : Fr) (s : St) => match v with | .out _ => x = .normal ∧ (Hp s (.blk a (.cells [(vS b), (vI d), (vI c)] 57) :: .blk e (.cells [(vI 0), (vS (ByteArray.mk #[])), (vI 0), A5] 64) :: R) ∧ Fl [(0, (.ptr a 0)), (2, (.ptr e 0)), (3, (vI g)), (5, (vI aa))] φ) | .ret r => FinR cfg Tryz.f26 (Is a b c R r) x φ s) ab) ?_ ?_
 {
 have H := ai
 refine An (t := (!b2)) rfl (fun p => ?_) (fun p => ?_)
 {
 have H := Au p H
 refine Aa ?_
 iterate 3 refine V rfl ?_
 refine W (Ag h 0 rfl rfl rfl rfl) rfl ?_
 obtain ⟨b3, a2, H⟩ := bind_some H
 rcases b3 with bx | bz
 {
 refine Ai (D2 h a2) rfl rfl rfl rfl ?_
 rintro _ ba ⟨rfl, aj⟩
 refine Ab ?_
 obtain rfl := so H
 exact And.intro rfl ⟨aj, (fl rfl)⟩}
 {
 refine Aj (D2 h a2) rfl rfl ?_
 intro bb ak
 obtain rfl := so H
 exact Fin.pan (C := cfg) (fn := Tryz.f26) ⟨rfl, (Hp.pick ak 2 [] rfl)⟩}}
 {
 have H := Av p H
 refine A7 ?_
 obtain rfl := so H
 exact And.intro rfl ⟨h, (fl rfl)⟩}}
 {
 rcases ab with _ | c0
 {
 intro x bc bd hJ
 obtain ⟨rfl, al, am⟩ := hJ
 refine Be (F := [(0, (.ptr a 0)), (2, (.ptr e 0)), (3, (vI g)), (5, (vI aa))]) am (Ac (Aa ?_))
 iterate 4 refine V rfl ?_
 refine Al al 0 rfl (Af rfl rfl rfl rfl rfl rfl) rfl rfl rfl rfl rfl ?_
 intro be an
 refine Ab (Ac (Aa (V rfl ?_)))
 refine W (Bh (Am rfl rfl rfl rfl rfl (Am rfl rfl rfl rfl rfl Bc)) rfl (Ak rfl rfl (Ak rfl rfl rfl)) Tryz.underlying64 rfl rfl) rfl ?_
 refine Al an 1 rfl (Af rfl rfl rfl rfl rfl rfl) rfl rfl rfl rfl rfl ?_
 intro bf a3
 refine Ab ?_
 obtain rfl := so H
 refine Aw (Fin.mk' (Bf a3 1 rfl rfl rfl rfl) ?_)
 exact ⟨A5, rfl, Sl.nil, (Hp.pick (As a3 64) 3 [1, 0] rfl)⟩}
 {
 intro x bg bh hJ
 obtain rfl := so H
 cases x <;> first | exact hJ | exact hJ.elim}}}}
 {
 intro x bi bj hJ
 obtain rfl := so H
 cases x <;> first | exact hJ | exact hJ.elim}}}}

theorem gsexp_parser__list_rec_ok {n : Nat} : ∀ (k : Nat) {a : Nat} {d : ByteArray} {p : Int} {q : Int} {l : Int} {R : List Res} {σ : St} (hp : Hp σ (.blk a (.cells [(vS d), (vI p), (vI q)] 57) :: R)) {r : (PR ((List Ae) × Int × Int) A3)} (H : B8 n k d p q l = some r), CaO cfg 12 [(.ptr a 0), (vI l)] σ (Fa a d R r) := by
  intro k
  induction k with
  | zero => intro a d p q l R σ hp r H; rw [B8] at H; cases H
  | succ k ihR =>
    intro a d p q l R σ hp r H
    rw [B8] at H
    refine CaO.enterL (G := [(0, (.ptr a 0)), (1, (vI l))]) Tryz.func12 rfl rfl rfl rfl ?_
    refine Ac ?_
    refine Aa ?_
    refine V rfl ?_
    refine Ab ?_
    refine Ac ?_
    refine Aa ?_
    refine V rfl ?_
    refine Ab ?_
    refine Bb ?_
    obtain ⟨ar, b2, H⟩ := bind_some H
    refine A4 (J := _) (D8 (fl rfl) (Cw (f := (fun m (i : ((List Ae) × Int × Int) × A) => Ce n (B8 n k) d l m i.1.1 i.1.2.1 i.1.2.2)) (G := (fun (i : ((List Ae) × Int × Int) × A) => ([(0, (.ptr a 0)), (1, (vI l)), (5, i.2)] : List (Nat × A)))) (I := (fun (i : ((List Ae) × Int × Int) × A) (s : St) => Sl A0 i.2 i.1.1 ∧ Hp s (.blk a (.cells [(vS d), (vI i.1.2.1), (vI i.1.2.2)] 57) :: .app i.2 64 :: R))) (J := (fun (v : LR Unit (PR ((List Ae) × Int × Int) A3)) (x : X) (φ : Fr) (s : St) => match v with | .out _ => False | .ret r => FinR cfg Tryz.f12 (Fa a d R r) x φ s)) (fun _ => rfl) ?_ n ((([] : List Ae), p, q), A5) _ ar ⟨Sl.nil, (Hp.pick (As hp 64) 2 [1, 0] rfl)⟩ b2)) ?_
    {
    rintro m ⟨⟨bz, c0, u⟩, e⟩ cv v ⟨w, cw⟩ H ih
    change Ce n (B8 n k) d l (m + 1) bz c0 u = some v at H
    rw [Ce] at H
    change Ec _ _ _ [(0, (.ptr a 0)), (1, (vI l)), (5, e)] cv _
    refine Bb ?_
    refine Ac ?_
    refine Aa ?_
    refine V rfl ?_
    obtain ⟨a0, au, H⟩ := bind_some H
    refine A2 rfl rfl rfl rfl (gsexp_parser__skip_ok cw au) ?_
    rintro _ cx ⟨rfl, a1⟩
    refine Ab ?_
    refine Ac ?_
    refine Ac ?_
    obtain ⟨y, b3, H⟩ := bind_some H
    refine A4 (J := (fun (y : Bool) (x : X) (φ : Fr) (s : St) => x = .normal ∧ (Hp s (.blk a (.cells [(vS d), (vI a0), (vI u)] 57) :: .app e 64 :: R) ∧ Fl [(0, (.ptr a 0)), (1, (vI l)), (5, e), (21, (vB y))] φ)) y) ?_ ?_
    {
    have H := b3
    refine Fv (by kernel_rfl) ?_
    iterate 3 refine V rfl ?_
    refine W (Ag a1 0 rfl rfl rfl rfl) rfl ?_
    iterate 3 refine V rfl ?_
    refine W (Ag a1 0 rfl rfl rfl rfl) rfl ?_
    refine W (Ic rfl rfl rfl rfl rfl Tryz.underlying9) rfl ?_
    refine V rfl ?_
    refine Ab ?_
    obtain rfl := so H
    exact And.intro rfl (And.intro rfl ⟨a1, (fl rfl)⟩)}
    {
    intro x cy cz hJ
    obtain ⟨rfl, j, b4⟩ := hJ
    refine Be (F := [(0, (.ptr a 0)), (1, (vI l)), (5, e), (21, (vB y))]) b4 ?_
    refine An (t := y) rfl (fun a2 => ?_) (fun a2 => ?_)
    {
    have H := Au a2 H
    refine Ac ?_
    refine Ac ?_
    refine Aa ?_
    refine V rfl ?_
    refine V rfl ?_
    refine Ab ?_
    obtain ⟨av, b5, H⟩ := bind_some H
    refine A4 (J := (fun (v : LR Unit (PR ((List Ae) × Int × Int) A3)) (x : X) (φ : Fr) (s : St) => match v with | .out _ => x = .normal ∧ (Hp s (.blk a (.cells [(vS d), (vI a0), (vI u)] 57) :: .app e 64 :: R) ∧ Fl [(5, e)] φ) | .ret r => FinR cfg Tryz.f12 (Fa a d R r) x φ s) av) ?_ ?_
    {
    have H := b5
    refine An (t := (decide (l > 0))) rfl (fun a3 => ?_) (fun a3 => ?_)
    {
    have H := Au a3 H
    refine Aa ?_
    iterate 3 refine V rfl ?_
    refine W (Ag j 0 rfl rfl rfl rfl) rfl ?_
    obtain ⟨c1, ac, H⟩ := bind_some H
    rcases c1 with e4 | e5
    {
    refine Ai (D2 j ac) rfl rfl rfl rfl ?_
    rintro _ d0 ⟨rfl, b6⟩
    refine Ab ?_
    obtain rfl := so H
    exact And.intro rfl ⟨b6, (fl rfl)⟩}
    {
    refine Aj (D2 j ac) rfl rfl ?_
    intro d1 b7
    obtain rfl := so H
    exact Fin.pan (C := cfg) (fn := Tryz.f12) ⟨rfl, (Hp.pick b7 2 [] rfl)⟩}}
    {
    have H := Av a3 H
    refine A7 ?_
    obtain rfl := so H
    exact And.intro rfl ⟨j, (fl rfl)⟩}}
    {
    rcases av with _ | e6
    {
    intro x d2 d3 hJ
    obtain ⟨rfl, b8, b9⟩ := hJ
    refine Be (F := [(5, e)]) b9 ?_
    refine Ac ?_
    refine Aa ?_
    refine V rfl ?_
    refine V rfl ?_
    refine Ab ?_
    obtain rfl := so H
    refine Aw ?_
    refine Fin.mk rfl ?_
    exact ⟨e, rfl, w, b8⟩}
    {
    intro x d4 d5 hJ
    obtain rfl := so H
    cases x <;> first | exact hJ | exact hJ.elim}}}
    {
    have H := Av a2 H
    refine A7 ?_
    refine Ac ?_
    obtain ⟨o, ba, H⟩ := bind_some H
    refine A4 (J := (fun (o : Int) (x : X) (φ : Fr) (s : St) => x = .normal ∧ (Hp s (.blk a (.cells [(vS d), (vI a0), (vI u)] 57) :: .app e 64 :: R) ∧ Fl [(0, (.ptr a 0)), (1, (vI l)), (5, e), (38, (.v (.int .u8 o)))] φ)) o) ?_ ?_
    {
    have H := ba
    refine Fv (by kernel_rfl) ?_
    iterate 3 refine V rfl ?_
    refine W (Ag j 0 rfl rfl rfl rfl) rfl ?_
    iterate 3 refine V rfl ?_
    refine W (Ag j 0 rfl rfl rfl rfl) rfl ?_
    obtain ⟨e7, hvb404, H⟩ := bind_some H
    refine W (op_byteS hvb404 rfl rfl rfl Tryz.underlying9) rfl ?_
    refine Ab ?_
    obtain rfl := so H
    exact And.intro rfl (And.intro rfl ⟨j, (fl rfl)⟩)}
    {
    intro x d6 d7 hJ
    obtain ⟨rfl, b, bb⟩ := hJ
    refine Be (F := [(0, (.ptr a 0)), (1, (vI l)), (5, e), (38, (.v (.int .u8 o)))]) bb ?_
    refine Bb ?_
    refine Ac ?_
    refine Aa ?_
    refine V rfl ?_
    refine V rfl ?_
    refine Ab ?_
    refine An (t := (o == 41)) rfl (fun a4 => ?_) (fun a4 => ?_)
    {
    have H := Au a4 H
    refine Ac ?_
    refine Ac ?_
    refine Aa ?_
    refine V rfl ?_
    refine V rfl ?_
    refine Ab ?_
    obtain ⟨aw, bc, H⟩ := bind_some H
    refine A4 (J := (fun (v : LR Unit (PR ((List Ae) × Int × Int) A3)) (x : X) (φ : Fr) (s : St) => match v with | .out _ => x = .normal ∧ (Hp s (.blk a (.cells [(vS d), (vI a0), (vI u)] 57) :: .app e 64 :: R) ∧ Fl [(0, (.ptr a 0)), (5, e)] φ) | .ret r => FinR cfg Tryz.f12 (Fa a d R r) x φ s) aw) ?_ ?_
    {
    have H := bc
    refine An (t := (l == 0)) rfl (fun a5 => ?_) (fun a5 => ?_)
    {
    have H := Au a5 H
    refine Aa ?_
    iterate 3 refine V rfl ?_
    refine W (Ag b 0 rfl rfl rfl rfl) rfl ?_
    obtain ⟨c2, ad, H⟩ := bind_some H
    rcases c2 with e8 | e9
    {
    refine Ai (D2 b ad) rfl rfl rfl rfl ?_
    rintro _ d8 ⟨rfl, bd⟩
    refine Ab ?_
    obtain rfl := so H
    exact And.intro rfl ⟨bd, (fl rfl)⟩}
    {
    refine Aj (D2 b ad) rfl rfl ?_
    intro d9 be
    obtain rfl := so H
    exact Fin.pan (C := cfg) (fn := Tryz.f12) ⟨rfl, (Hp.pick be 2 [] rfl)⟩}}
    {
    have H := Av a5 H
    refine A7 ?_
    obtain rfl := so H
    exact And.intro rfl ⟨b, (fl rfl)⟩}}
    {
    rcases aw with _ | ea
    {
    intro x da db hJ
    obtain ⟨rfl, ae, bf⟩ := hJ
    refine Be (F := [(0, (.ptr a 0)), (5, e)]) bf ?_
    refine Ac ?_
    refine Aa ?_
    iterate 3 refine V rfl ?_
    refine W (Ag ae 0 rfl rfl rfl rfl) rfl ?_
    iterate 3 refine V rfl ?_
    refine Al ae 0 rfl (Af rfl rfl rfl rfl rfl rfl) rfl rfl rfl rfl rfl ?_
    intro dc bg
    refine Ab ?_
    refine Ac ?_
    refine Aa ?_
    refine V rfl ?_
    refine V rfl ?_
    refine Ab ?_
    obtain rfl := so H
    refine Aw ?_
    refine Fin.mk rfl ?_
    exact ⟨e, rfl, w, bg⟩}
    {
    intro x dd de hJ
    obtain rfl := so H
    cases x <;> first | exact hJ | exact hJ.elim}}}
    {
    have H := Av a4 H
    refine Ac ?_
    refine Aa ?_
    refine V rfl ?_
    refine V rfl ?_
    refine Ab ?_
    refine An (t := (o == 40)) rfl (fun a6 => ?_) (fun a6 => ?_)
    {
    have H := Au a6 H
    refine Ac ?_
    refine Aa ?_
    iterate 3 refine V rfl ?_
    obtain ⟨c3, af, H⟩ := bind_some H
    rcases c3 with eb | ec
    {
    refine Ai (gsexp_parser__count_ok b af) rfl rfl rfl rfl ?_
    rintro _ df ⟨rfl, ag⟩
    refine Ab ?_
    refine Ac ?_
    refine Aa ?_
    iterate 3 refine V rfl ?_
    refine W (Ag ag 0 rfl rfl rfl rfl) rfl ?_
    iterate 3 refine V rfl ?_
    refine Al ag 0 rfl (Af rfl rfl rfl rfl rfl rfl) rfl rfl rfl rfl rfl ?_
    intro dg ah
    refine Ab ?_
    refine Aa ?_
    iterate 4 refine V rfl ?_
    obtain ⟨c4, ai, H⟩ := bind_some H
    rcases c4 with c5 | ed
    {
    refine Ai (ihR ah ai) rfl rfl rfl rfl ?_
    obtain ⟨c6, c7, c8⟩ := c5
    rintro a7 dh ⟨_, rfl, ab, bh⟩
    refine W (Bh (Am rfl rfl rfl rfl rfl (Am rfl ab.cells rfl rfl rfl Bc)) rfl (Ak rfl rfl (Ak rfl ab.noJunk rfl)) Tryz.underlying64 rfl rfl) rfl ?_
    refine W (Cy (Am rfl rfl rfl rfl rfl Bc) rfl (Ak rfl rfl rfl) Tryz.underlying23 rfl rfl rfl rfl (by decide) rfl) rfl ?_
    have c9 : Sl A0 (.sl 4 [(vI 4), (vS (ByteArray.mk #[])), (vI 0), a7] .ex) ([(Ae.mk 4 (ByteArray.mk #[]) 0 c6)] : List Ae) := .inr ⟨_, _, rfl, (.cons (c := [(vI 4), (vS (ByteArray.mk #[])), (vI 0), a7]) (rTTree_of ⟨a7, rfl, ab⟩) .nil)⟩
    have bi := Dv bh 64 4 [(vI 4), (vS (ByteArray.mk #[])), (vI 0), a7]
    obtain ⟨ca, ax, H⟩ := bind_some H
    refine Hy bi 3 rfl w (New.of c9) ax rfl rfl rfl rfl rfl rfl rfl Tryz.underlying23 rfl Tryz.underlying23 rfl rfl rfl rfl rfl rfl rfl rfl ?_
    intro cb di cc bj
    refine V rfl ?_
    refine Ab ?_
    exact Be (fl rfl) (ih ((ca, c7, c8), cb) _ ⟨cc, (Hp.pick bj 3 [1] rfl)⟩ H)}
    {
    refine Aj (ihR ah ai) rfl rfl ?_
    intro dj bk
    obtain rfl := so H
    exact Fin.pan (C := cfg) (fn := Tryz.f12) ⟨rfl, (Hp.pick bk 1 [] rfl)⟩}}
    {
    refine Aj (gsexp_parser__count_ok b af) rfl rfl ?_
    intro dk bl
    obtain rfl := so H
    exact Fin.pan (C := cfg) (fn := Tryz.f12) ⟨rfl, (Hp.pick bl 1 [] rfl)⟩}}
    {
    have H := Av a6 H
    refine Ac ?_
    refine Aa ?_
    refine V rfl ?_
    refine V rfl ?_
    refine Ab ?_
    refine An (t := (o == 34)) rfl (fun a8 => ?_) (fun a8 => ?_)
    {
    have H := Au a8 H
    refine Ac ?_
    refine Aa ?_
    iterate 3 refine V rfl ?_
    refine W (Ag b 0 rfl rfl rfl rfl) rfl ?_
    refine V rfl ?_
    refine Ab ?_
    refine Ac ?_
    refine Aa ?_
    refine V rfl ?_
    obtain ⟨cd, aj, H⟩ := bind_some H
    rcases cd with ce | ee
    {
    refine Ai (Ko b aj) rfl rfl rfl rfl ?_
    obtain ⟨g, cf⟩ := ce
    rintro _ dl ⟨a9, rfl, ay, bm⟩
    refine Cs (z := [(vI 0), (vS (ByteArray.mk #[])), (vI 0), A5]) bm rfl rfl rfl rfl rfl ?_
    intro ef dm bn
    refine Al bn 0 rfl (Af rfl rfl rfl (by exact on rfl (on rfl (on rfl (on ay.isOne on0)))) rfl rfl) rfl rfl rfl rfl rfl ?_
    intro dn ak
    refine Ab ?_
    refine Ac ?_
    refine Aa ?_
    refine V rfl ?_
    refine V rfl ?_
    obtain ⟨cg, al, H⟩ := bind_some H
    rcases cg with ch | eg
    {
    refine Ai (F5 (Hp.pick ak 2 [1, 0] rfl) al) rfl rfl rfl rfl ?_
    rintro _ dp ⟨rfl, am⟩
    refine Ab ?_
    refine Aa ?_
    refine V rfl ?_
    refine W (Ag am 1 rfl rfl rfl rfl) rfl ?_
    refine W (Cy (Am rfl rfl rfl rfl rfl Bc) rfl (Ak rfl rfl rfl) Tryz.underlying23 rfl rfl rfl rfl (by decide) rfl) rfl ?_
    have ci : Sl A0 (.sl 4 [(vI g.f_Kind), (vS g.f_Word), (vI g.f_Num), a9] .ex) ([g] : List Ae) := .inr ⟨_, _, rfl, (.cons (c := [(vI g.f_Kind), (vS g.f_Word), (vI g.f_Num), a9]) (rTTree_of ⟨a9, rfl, ay⟩) .nil)⟩
    have bo := Dv am 64 4 [(vI g.f_Kind), (vS g.f_Word), (vI g.f_Num), a9]
    obtain ⟨cj, az, H⟩ := bind_some H
    refine Hy bo 4 rfl w (New.of ci) az rfl rfl rfl rfl rfl rfl rfl Tryz.underlying23 rfl Tryz.underlying23 rfl rfl rfl rfl rfl rfl rfl rfl ?_
    intro ck dq cl bp
    refine V rfl ?_
    refine Ab ?_
    exact Be (fl rfl) (ih ((cj, cf, ch), ck) _ ⟨cl, (Hp.pick bp 4 [1] rfl)⟩ H)}
    {
    refine Aj (F5 (Hp.pick ak 2 [1, 0] rfl) al) rfl rfl ?_
    intro dr bq
    obtain rfl := so H
    exact Fin.pan (C := cfg) (fn := Tryz.f12) ⟨rfl, (Hp.pick bq 3 [] rfl)⟩}}
    {
    refine Aj (Ko b aj) rfl rfl ?_
    intro ds br
    obtain rfl := so H
    exact Fin.pan (C := cfg) (fn := Tryz.f12) ⟨rfl, (Hp.pick br 1 [] rfl)⟩}}
    {
    have H := Av a8 H
    refine Ac ?_
    refine Aa ?_
    iterate 3 refine V rfl ?_
    refine W (Ag b 0 rfl rfl rfl rfl) rfl ?_
    refine V rfl ?_
    refine Ab ?_
    refine Ac ?_
    refine Aa ?_
    refine V rfl ?_
    obtain ⟨cm, an, H⟩ := bind_some H
    rcases cm with cn | eh
    {
    refine Ai (gsexp_parser__run_ok b an) rfl rfl rfl rfl ?_
    obtain ⟨h, co⟩ := cn
    rintro _ dt ⟨aa, rfl, b0, bs⟩
    refine Cs (z := [(vI 0), (vS (ByteArray.mk #[])), (vI 0), A5]) bs rfl rfl rfl rfl rfl ?_
    intro ei du bt
    refine Al bt 0 rfl (Af rfl rfl rfl (by exact on rfl (on rfl (on rfl (on b0.isOne on0)))) rfl rfl) rfl rfl rfl rfl rfl ?_
    intro dv ao
    refine Ab ?_
    refine Ac ?_
    refine Aa ?_
    refine V rfl ?_
    refine V rfl ?_
    obtain ⟨cp, ap, H⟩ := bind_some H
    rcases cp with cq | ej
    {
    refine Ai (F5 (Hp.pick ao 2 [1, 0] rfl) ap) rfl rfl rfl rfl ?_
    rintro _ dw ⟨rfl, aq⟩
    refine Ab ?_
    refine Aa ?_
    refine V rfl ?_
    refine W (Ag aq 1 rfl rfl rfl rfl) rfl ?_
    refine W (Cy (Am rfl rfl rfl rfl rfl Bc) rfl (Ak rfl rfl rfl) Tryz.underlying23 rfl rfl rfl rfl (by decide) rfl) rfl ?_
    have cr : Sl A0 (.sl 4 [(vI h.f_Kind), (vS h.f_Word), (vI h.f_Num), aa] .ex) ([h] : List Ae) := .inr ⟨_, _, rfl, (.cons (c := [(vI h.f_Kind), (vS h.f_Word), (vI h.f_Num), aa]) (rTTree_of ⟨aa, rfl, b0⟩) .nil)⟩
    have bu := Dv aq 64 4 [(vI h.f_Kind), (vS h.f_Word), (vI h.f_Num), aa]
    obtain ⟨cs, b1, H⟩ := bind_some H
    refine Hy bu 4 rfl w (New.of cr) b1 rfl rfl rfl rfl rfl rfl rfl Tryz.underlying23 rfl Tryz.underlying23 rfl rfl rfl rfl rfl rfl rfl rfl ?_
    intro ct dx cu bv
    refine V rfl ?_
    refine Ab ?_
    exact Be (fl rfl) (ih ((cs, co, cq), ct) _ ⟨cu, (Hp.pick bv 4 [1] rfl)⟩ H)}
    {
    refine Aj (F5 (Hp.pick ao 2 [1, 0] rfl) ap) rfl rfl ?_
    intro dy bw
    obtain rfl := so H
    exact Fin.pan (C := cfg) (fn := Tryz.f12) ⟨rfl, (Hp.pick bw 3 [] rfl)⟩}}
    {
    refine Aj (gsexp_parser__run_ok b an) rfl rfl ?_
    intro dz bx
    obtain rfl := so H
    exact Fin.pan (C := cfg) (fn := Tryz.f12) ⟨rfl, (Hp.pick bx 1 [] rfl)⟩}}}}}}}}
    {
    rcases ar with _ | ek
    {
    intro x e0 e1 hJ
    exact hJ.elim}
    {
    intro x e2 e3 hJ
    obtain rfl := so H
    cases x <;> first | exact hJ | exact hJ.elim}}

theorem gsexp_parser__list_ok {n : Nat} {b : Nat} {a : ByteArray} {c : Int} {d : Int} {e : Int} {R : List Res} {σ : St} (hp : Hp σ (.blk b (.cells [(vS a), (vI c), (vI d)] 57) :: R)) {r : (PR ((List Ae) × Int × Int) A3)} (H : Ke n a c d e = some r) : CaO cfg 12 [(.ptr b 0), (vI e)] σ (Fa b a R r) := gsexp_parser__list_rec_ok n hp H

theorem gsexp_Parse_1_fin_ok {n : Nat} {c : Nat} {d : Nat} {e : Nat} {g : (List Ae)} {a : Int} {b : Int} {f : A} {R : List Res} {σ : St} (p : Sl A0 f g) (hp : Hp σ (.blk c (.cells [f] 23) :: .blk d (.cells [(vI a)] 3) :: .blk e (.cells [(vI b)] 24) :: .app f 64 :: R)) {r : Unit} (H : gsexp_Parse_1_fin n g a b = some r) : Cd cfg 11 [(.ptr c 0), (.ptr d 0), (.ptr e 0)] σ none (fun s q => q = none ∧ (Hp s (.blk c (.cells [f] 23) :: .blk d (.cells [(vI a)] 3) :: .blk e (.cells [(vI b)] 24) :: .app f 64 :: R))) := by
 unfold gsexp_Parse_1_fin at H
 refine Cd.enter (G := [(0, (.ptr c 0)), (1, (.ptr d 0)), (2, (.ptr e 0))]) Tryz.func11 rfl rfl rfl rfl (EsC.seq (EsC.rcv rfl rfl rfl rfl rfl (V rfl (Ab ?_))))
 refine ⟨rfl, rfl, rfl, _, Fl.self _, ?_⟩
 refine EsC.of (Ac (Aa (V rfl (W (op_nilNil rfl rfl rfl Tryz.underlying20 rfl) rfl (Ab ?_)))))
 obtain ⟨l, j, H⟩ := bind_some H
 refine A4 (J := (fun (_ : Unit) (x : X) (φ : Fr) (s : St) => x = .normal ∧ (Hp s (.blk c (.cells [f] 23) :: .blk d (.cells [(vI a)] 3) :: .blk e (.cells [(vI b)] 24) :: .app f 64 :: R) ∧ Fl [] φ)) l) ?_ ?_
 {
 have H := j
 refine An (t := false) rfl (fun h => nomatch h) (fun h => ?_)
 refine A7 ?_
 obtain rfl := so H
 exact And.intro rfl ⟨hp, (.nil')⟩}
 {
 intro x m o hJ
 obtain ⟨rfl, k, i⟩ := hJ
 obtain rfl := so H
 exact ⟨.inl rfl, i.2, .inl rfl, i.2, ⟨[], rfl⟩, rfl, k⟩}

theorem gsexp_Parse_1_pan_ok {n : Nat} {a : Nat} {b : Nat} {c : Nat} {g : (List Ae)} {i : Int} {j : Int} {pp : A3} {a1 : A} {R : List Res} {σ : St} (ao : Sl A0 a1 g) (hp : Hp σ (.blk a (.cells [a1] 23) :: .blk b (.cells [(vI i)] 3) :: .blk c (.cells [(vI j)] 24) :: .app a1 64 :: R)) {r : ((List Ae) × Int × Int)} (H : gsexp_Parse_1_pan n g i j pp = some r) : Cd cfg 11 [(.ptr a 0), (.ptr b 0), (.ptr c 0)] σ (some (.ifc 54 (.agg [(vI pp.f_at), (vI pp.f_e)]))) (fun s q => q = none ∧ (∃ (a2 : A), Sl A0 a2 r.1 ∧ Hp s (.blk a (.cells [a2] 23) :: .blk b (.cells [(vI r.2.1)] 3) :: .blk c (.cells [(vI r.2.2)] 24) :: .app a2 64 :: R))) := by
 unfold gsexp_Parse_1_pan at H
 refine Cd.enter (G := [(0, (.ptr a 0)), (1, (.ptr b 0)), (2, (.ptr c 0))]) Tryz.func11 rfl rfl rfl rfl (EsC.seq (EsC.rcv rfl rfl rfl rfl rfl (V rfl (Ab ?_))))
 refine ⟨rfl, rfl, rfl, _, Fl.self _, ?_⟩
 refine EsC.of (Ac (Aa (V rfl (W (op_neNil rfl rfl rfl Tryz.underlying20 rfl) rfl (Ab ?_)))))
 obtain ⟨l, a3, H⟩ := bind_some H
 refine A4 (J := (fun (v : ((List Ae) × Int × Int)) (x : X) (φ : Fr) (s : St) => match v with | (m, o, p) => x = .normal ∧ (∃ (d : A), Sl A0 d m ∧ Hp s (.blk a (.cells [d] 23) :: .blk b (.cells [(vI o)] 3) :: .blk c (.cells [(vI p)] 24) :: .app d 64 :: R) ∧ Fl [] φ)) l) ?_ ?_
 {
 have H := a3
 refine An (t := true) rfl (fun h => ?_) (fun h => nomatch h)
 refine Ac (Aa (V rfl (W (op_assert rfl rfl Tryz.underlying54 rfl) rfl (Cs (z := [(vI 0), (vI 0)]) hp rfl rfl rfl rfl rfl ?_))))
 intro an ae a4
 refine Al a4 0 rfl (Af rfl rfl rfl rfl rfl rfl) rfl rfl rfl rfl rfl ?_
 intro af f
 refine Ab ?_
 obtain ⟨u, a5, H⟩ := bind_some H
 refine A4 (J := (fun (v : ((List Ae) × Int × Int)) (x : X) (φ : Fr) (s : St) => match v with | (w, y, a0) => x = .normal ∧ (∃ (e : A), Sl A0 e w ∧ Hp s (.blk a (.cells [e] 23) :: .blk b (.cells [(vI y)] 3) :: .blk c (.cells [(vI a0)] 24) :: .app e 64 :: R) ∧ Fl [] φ)) u) ?_ ?_
 {
 have H := a5
 refine Fw (by kernel_rfl) (Az rfl rfl rfl rfl rfl rfl (Az (Ag f 0 rfl rfl rfl rfl) rfl rfl rfl rfl rfl (Az rfl rfl rfl rfl rfl rfl (Az (Ag f 0 rfl rfl rfl rfl) rfl rfl rfl rfl rfl (Gm f 1 rfl (Af (rfl) rfl rfl rfl rfl rfl) rfl rfl rfl rfl rfl (fun σ' hp' => ((B7 rfl (Ag hp' 0 rfl rfl rfl rfl) (Ad rfl (B7 rfl (Ag hp' 0 rfl rfl rfl rfl) (Ad rfl A6)))))) ?_)))))
 intro ag a6
 refine Gm a6 2 rfl (Af rfl rfl rfl rfl rfl rfl) rfl rfl rfl rfl rfl (fun σ' hp' => ((B7 rfl (Ag hp' 0 rfl rfl rfl rfl) (Ad rfl (Bd (by kernel_rfl) (Ad rfl A6)))))) ?_
 intro ah a7
 refine Gm a7 3 rfl (Af rfl rfl rfl rfl rfl rfl) rfl rfl rfl rfl rfl (fun σ' hp' => ((Bd (by kernel_rfl) (Ad rfl (Bd (by kernel_rfl) (Ad rfl A6)))))) ?_
 intro ai a8
 refine Dh ?_
 obtain rfl := so H
 exact And.intro rfl (And.intro rfl ⟨A5, Sl.nil, (Hp.pick (As a8 64) 6 [2, 3, 4, 0] rfl), (.nil')⟩)}
 {
 intro x aj ak hJ
 obtain ⟨w, y, a0⟩ := u
 obtain ⟨rfl, e, ac, a9, aa⟩ := hJ
 obtain rfl := so H
 exact And.intro rfl ⟨e, ac, a9, (Fl.trans (G := []) (.nil') aa)⟩}}
 {
 intro x al am hJ
 obtain ⟨m, o, p⟩ := l
 obtain ⟨rfl, d, ad, ab, k⟩ := hJ
 obtain rfl := so H
 exact ⟨.inl rfl, k.2, .inl rfl, k.2, ⟨[], rfl⟩, rfl, d, ad, ab⟩}

theorem gsexp_Parse_ok {n : Nat} {i : ByteArray} {R : List Res} {σ : St} (hp : Hp σ R) {r : ((List Ae) × Int × Int)} (H : Gz n i = some r) : Ca cfg 7 [(vS i)] σ (gsexp_Parse_post R r) := by
 refine CaO.val ?_
 unfold Gz at H
 refine CaO.enterD (G := [(0, (vS i))]) Tryz.func7 rfl rfl rfl rfl (Ac (Aa (Cs (z := [A5]) hp rfl rfl rfl rfl rfl ?_)))
 intro ar ag v
 refine Cs (z := [(vI 0)]) v rfl rfl rfl rfl rfl ?_
 intro au ah w
 refine Cs (z := [(vI 0)]) w rfl rfl rfl rfl rfl ?_
 intro av a4 f
 refine Ab (Ac (Ac (Aa (V rfl (W (Ic rfl rfl rfl rfl rfl Tryz.underlying9) rfl ?_)))))
 refine V rfl (Ab ?_)
 refine An (t := (decide (((i.size : Nat) : Int) > 262144))) rfl (fun d => ?_) (fun d => ?_)
 {
 have H := Au d H
 refine Ac (Aa (Al f 2 rfl (Af (rfl) rfl rfl rfl rfl rfl) rfl rfl rfl rfl rfl ?_))
 intro a5 l
 refine Al l 1 rfl (Af rfl rfl rfl rfl rfl rfl) rfl rfl rfl rfl rfl ?_
 intro a6 m
 refine Al m 0 rfl (Af rfl rfl rfl rfl rfl rfl) rfl rfl rfl rfl rfl ?_
 intro a7 a
 refine Ab ?_
 obtain rfl := so H
 refine Aw (FinD.ret0 (Bf a 2 rfl rfl rfl (Bf a 1 rfl rfl rfl (Bf a 0 rfl rfl rfl rfl))) ?_)
 exact ⟨A5, rfl, Sl.nil, (Hp.pick (As a 64) 4 [0] rfl)⟩}
 {
 have H := Av d H
 refine A7 (Ac (Aa (V rfl (Eo.deferSeq rfl rfl rfl (Ac ?_)))))
 refine Aa (V rfl ?_)
 refine W (Bh (Am rfl rfl rfl rfl rfl Bc) rfl (Ak rfl rfl rfl) Tryz.underlying57 rfl rfl) rfl ?_
 refine Cb f rfl rfl rfl rfl rfl rfl rfl ?_
 intro ai a8 g
 refine V rfl (Ab (Ac (Aa (V rfl ?_))))
 obtain ⟨x, h, H⟩ := bind_some H
 rcases x with y | aj
 {
 refine Ai (gsexp_parser__list_ok g h) rfl rfl rfl rfl ?_
 obtain ⟨ak, al, am⟩ := y
 rintro a0 a9 ⟨_, rfl, e, o⟩
 refine Al o 4 rfl (Af (e.cells) rfl rfl (by exact on e.isOne on0) rfl rfl) rfl rfl rfl rfl rfl ?_
 intro aa p
 refine Al p 3 rfl (Af rfl rfl rfl rfl rfl rfl) rfl rfl rfl rfl rfl ?_
 intro ab q
 refine Al q 2 rfl (Af rfl rfl rfl rfl rfl rfl) rfl rfl rfl rfl rfl ?_
 intro ac s
 refine Ab ?_
 obtain ⟨an, j, H⟩ := bind_some H
 refine Aw ?_
 refine FinD.retD (Cd.imp (gsexp_Parse_1_fin_ok e (Hp.pick s 5 [4, 3, 2, 1, 0] rfl) j) ?_)
 obtain rfl := so H
 rintro ad _ ⟨rfl, b⟩
 refine ⟨rfl, _, (Bf b 0 rfl rfl rfl (Bf b 1 rfl rfl rfl (Bf b 2 rfl rfl rfl rfl))), ?_⟩
 exact ⟨a0, rfl, e, (Hp.pick b 5 [3] rfl)⟩}
 {
 refine Aj (gsexp_parser__list_ok g h) rfl rfl ?_
 intro ae u
 obtain ⟨a1, k, H⟩ := bind_some H
 refine FinD.panD (Cd.imp (gsexp_Parse_1_pan_ok Sl.nil (Hp.pick (As u 64) 4 [3, 2, 1, 0] rfl) k) ?_)
 obtain ⟨ao, ap, aq⟩ := a1
 obtain rfl := so H
 rintro af _ ⟨rfl, a2, a3, c⟩
 refine ⟨rfl, _, (Bf c 0 rfl rfl rfl (Bf c 1 rfl rfl rfl (Bf c 2 rfl rfl rfl rfl))), ?_⟩
 exact ⟨a2, rfl, a3, (Hp.pick c 3 [] rfl)⟩}}

theorem Ah {n : Nat} {b : Bool} {d : Int} {R : List Res} {σ : St} (hp : Hp σ R) {r : (PR Unit Int)} (H : Ay n b d = some r) : CaO cfg 68 [(vB b), (vI d)] σ (gisadl_must_post R r) := by
 unfold Ay at H
 refine CaO.enterL (G := [(0, (vB b)), (1, (vI d))]) Tryz.func68 rfl rfl rfl rfl (Ac (Aa (V rfl (V rfl (Ab ?_)))))
 obtain ⟨c, e, H⟩ := bind_some H
 refine A4 (J := (fun (v : LR Unit (PR Unit Int)) (x : X) (φ : Fr) (s : St) => match v with | .out _ => x = .normal ∧ (Hp s R ∧ Fl [] φ) | .ret r => FinR cfg Tryz.f68 (gisadl_must_post R r) x φ s) c) ?_ ?_
 {
 have H := e
 refine An (t := (!b)) rfl (fun a => ?_) (fun a => ?_)
 {
 have H := Au a H
 refine Aa (V rfl (W (op_iface rfl rfl Tryz.underlying24 rfl) rfl (Eo.panic rfl rfl rfl ?_)))
 obtain rfl := so H
 exact Fin.pan (C := cfg) (fn := Tryz.f68) ⟨rfl, hp⟩}
 {
 have H := Av a H
 refine A7 ?_
 obtain rfl := so H
 exact And.intro rfl ⟨hp, (.nil')⟩}}
 {
 rcases c with _ | l
 {
 intro x h i hJ
 obtain ⟨rfl, f, g⟩ := hJ
 obtain rfl := so H
 refine Fin.mkNφ (C := cfg) (fn := Tryz.f68) g rfl ?_
 exact ⟨rfl, f⟩}
 {
 intro x j k hJ
 obtain rfl := so H
 cases x <;> first | exact hJ | exact hJ.elim}}

theorem Bo {n : Nat} {a : Ae} {e : A} {R : List Res} {σ : St} (b : Sl A0 e a.f_Kids) (hp : Hp σ R) {r : (PR Tisadl_cursor Int)} (H : Ej n a = some r) : CaO cfg 66 [(.agg [(vI a.f_Kind), (vS a.f_Word), (vI a.f_Num), e])] σ (gisadl_list_post R r) := by
 unfold Ej at H
 refine CaO.enterL (G := [(0, (.agg [(vI a.f_Kind), (vS a.f_Word), (vI a.f_Num), e]))]) Tryz.func66 rfl rfl rfl rfl (Ac (Aa (Cb hp rfl (by exact on rfl (on rfl (on rfl (on b.isOne on0)))) rfl rfl rfl rfl rfl ?_)))
 intro s m c
 refine V rfl (Ab (Ac (Aa (V rfl (W (Ag c 0 rfl rfl rfl rfl) rfl ?_)))))
 refine V rfl ?_
 obtain ⟨i, d, H⟩ := bind_some H
 rcases i with o | p
 {
 refine Ai (Ah c d) rfl rfl rfl rfl ?_
 rintro _ q ⟨rfl, f⟩
 refine Ab (Ac (Aa (V rfl (W (Ag f 0 rfl rfl rfl rfl) rfl ?_))))
 refine W (Bh (Am rfl b.cells rfl rfl rfl Bc) rfl (Ak rfl b.noJunk rfl) Tryz.underlying167 rfl rfl) rfl ?_
 refine Cb f rfl (by exact on b.isOne on0) rfl rfl rfl rfl rfl ?_
 intro j k g
 refine V rfl (Ab ?_)
 obtain rfl := so H
 refine Aw (Fin.mk rfl ?_)
 exact ⟨j, e, rfl, b, (Hp.pick g 2 [0] rfl)⟩}
 {
 refine Aj (Ah c d) rfl rfl ?_
 intro l h
 obtain rfl := so H
 exact Fin.pan (C := cfg) (fn := Tryz.f66) ⟨rfl, (Hp.pick h 1 [] rfl)⟩}

theorem Hl {n : Nat} {a : Nat} {b : (List Ae)} {c : A} {R : List Res} {σ : St} (d : Sl A0 c b) (hp : Hp σ (.blk a (.cells [c] 167) :: R)) {r : Bool} (H : H8 n b = some r) : Ca cfg 117 [(.ptr a 0)] σ (gc_more_post a c R r) := by
 unfold H8 at H
 refine Ca.enterL (G := [(0, (.ptr a 0))]) Tryz.func117 rfl rfl rfl rfl (Ac (Aa (V rfl (Ab (Ac ?_)))))
 refine Aa ?_
 iterate 3 refine V rfl ?_
 refine W (Ag hp 0 rfl rfl rfl rfl) rfl (W (Cj d rfl rfl rfl rfl rfl Tryz.underlying23) rfl (V rfl (V rfl (Ab ?_))))
 obtain rfl := so H
 refine Aw (Ret.mk rfl ?_)
 exact ⟨rfl, hp⟩

theorem Bj {n : Nat} {a : Nat} {d : (List Ae)} {p : Int} {v : A} {R : List Res} {σ : St} (q : Sl A0 v d) (hp : Hp σ (.blk a (.cells [v] 167) :: R)) {r : (PR (Ae × (List Ae)) Int)} (H : Fh n d p = some r) : CaO cfg 86 [(.ptr a 0), (vI p)] σ (gc_next_post a R r) := by
 unfold Fh at H
 refine CaO.enterL (G := [(0, (.ptr a 0)), (1, (vI p))]) Tryz.func86 rfl rfl rfl rfl (Ac (Aa (Cs (z := [(vI 0), (vS (ByteArray.mk #[])), (vI 0), A5]) hp rfl rfl rfl rfl rfl ?_)))
 intro w aj a3
 refine Ab (Ac (Aa (V rfl ?_)))
 obtain ⟨a4, t, H⟩ := bind_some H
 refine A2 rfl rfl rfl rfl (Hl q (Hp.pick a3 2 [1, 0] rfl) t) ?_
 rintro _ a8 ⟨rfl, b⟩
 refine V rfl ?_
 obtain ⟨c, y, H⟩ := bind_some H
 refine H1 14 (J := (fun (c : Bool) (x : X) (φ : Fr) (s : St) => x = .normal ∧ (Hp s (.blk a (.cells [v] 167) :: .blk w (.cells [(vI 0), (vS (ByteArray.mk #[])), (vI 0), A5] 64) :: R) ∧ Fl [(0, (.ptr a 0)), (4, (.ptr w 0)), (22, (vB c))] φ)) c) ?_ ?_
 {
 have H := y
 cases e : a4
 {
 have H := Av e H
 iterate 13 refine Co rfl rfl rfl ?_
 refine V rfl (Ab ?_)
 obtain rfl := so H
 exact And.intro rfl ⟨b, (fl rfl)⟩}
 {
 have H := Au e H
 iterate 3 refine V rfl ?_
 cases f : (p == 0)
 {
 have H := Av f H
 iterate 3 refine V rfl ?_
 refine W (Ag b 0 rfl rfl rfl rfl) rfl ?_
 obtain ⟨ak, hvx25, H⟩ := bind_some H
 refine F8 q hvx25 rfl rfl rfl Tryz.underlying23 rfl rfl rfl rfl ?_
 intro a9 al _ hat28 hr31
 obtain ⟨am, rfl, an⟩ := rTTree_un hr31
 refine V rfl (W (Hx hat28 0 rfl rfl rfl rfl rfl) rfl ?_)
 iterate 4 refine V rfl ?_
 refine Ab ?_
 obtain rfl := so H
 exact And.intro rfl ⟨b, (fl rfl)⟩}
 {
 have H := Au f H
 iterate 9 refine Co rfl rfl rfl ?_
 refine V rfl (V rfl (Ab ?_))
 obtain rfl := so H
 exact And.intro rfl ⟨b, (fl rfl)⟩}}}
 {
 intro x aa ab hJ
 obtain ⟨rfl, g, a0⟩ := hJ
 refine ⟨rfl, Eo.of (F := [(0, (.ptr a 0)), (4, (.ptr w 0)), (22, (vB c))]) a0 ?_⟩
 obtain ⟨a5, h, H⟩ := bind_some H
 rcases a5 with ao | ap
 {
 refine Ai (Ah g h) rfl rfl rfl rfl ?_
 rintro _ ac ⟨rfl, i⟩
 refine Ab (Ac (Aa ?_))
 iterate 3 refine V rfl ?_
 refine W (Ag i 0 rfl rfl rfl rfl) rfl ?_
 obtain ⟨aq, hvx38, H⟩ := bind_some H
 refine F8 q hvx38 rfl rfl rfl Tryz.underlying23 rfl rfl rfl rfl ?_
 intro ad ar _ hat41 hr44
 obtain ⟨a6, rfl, j⟩ := rTTree_un hr44
 refine W (Eb hat41 0 rfl rfl rfl rfl rfl rfl) rfl (Cs (z := [(vI 0), (vS (ByteArray.mk #[])), (vI 0), A5]) i rfl rfl rfl rfl rfl ?_)
 intro au ae a1
 refine Al a1 0 rfl (Af rfl rfl rfl (by exact on rfl (on rfl (on rfl (on j.isOne on0)))) rfl rfl) rfl rfl rfl rfl rfl ?_
 intro af k
 refine Ab (Ac (Aa ?_))
 iterate 4 refine V rfl ?_
 refine W (Ag k 1 rfl rfl rfl rfl) rfl ?_
 obtain ⟨av, u, H⟩ := bind_some H
 refine Eo.subL q u rfl rfl Tryz.underlying23 rfl (.inr ⟨_, _, rfl, rfl⟩) (.inl ⟨rfl, rfl⟩) rfl rfl rfl ?_
 intro a7 l
 refine V rfl (V rfl (Al k 1 rfl (Af (l.cells) rfl rfl (by exact on l.isOne on0) rfl rfl) rfl rfl rfl rfl rfl ?_))
 intro ag m
 refine Ab (Ac (Aa (W (Ag m 0 rfl rfl rfl rfl) rfl (Al m 2 rfl (Af rfl rfl rfl (by exact on rfl (on rfl (on rfl (on j.isOne on0)))) rfl rfl) rfl rfl rfl rfl rfl ?_))))
 intro ah o
 refine Ab ?_
 obtain rfl := so H
 refine Aw (Fin.mk' (Bf o 2 rfl rfl rfl rfl) ?_)
 exact ⟨a6, a7, rfl, j, l, (Hp.pick o 3 [1] rfl)⟩}
 {
 refine Aj (Ah g h) rfl rfl ?_
 intro ai a2
 obtain rfl := so H
 exact Fin.pan (C := cfg) (fn := Tryz.f86) ⟨rfl, (Hp.pick a2 2 [] rfl)⟩}}

theorem A1 {n : Nat} {a : Nat} {b : (List Ae)} {f : A} {R : List Res} {σ : St} (g : Sl A0 f b) (hp : Hp σ (.blk a (.cells [f] 167) :: R)) {r : (PR (ByteArray × (List Ae)) Int)} (H : Db n b = some r) : CaO cfg 67 [(.ptr a 0)] σ (gc_word_post a R r) := by
 unfold Db at H
 refine CaO.enterL (G := [(0, (.ptr a 0))]) Tryz.func67 rfl rfl rfl rfl (Ac (Aa (V rfl (Ab (Ac ?_)))))
 refine Aa (V rfl ?_)
 obtain ⟨h, c, H⟩ := bind_some H
 rcases h with i | o
 {
 refine Ai (Bj g hp c) rfl rfl rfl rfl ?_
 obtain ⟨p, q⟩ := i
 rintro _ k ⟨s, l, rfl, t, j, d⟩
 refine V rfl (V rfl (Ab ?_))
 obtain rfl := so H
 refine Aw (Fin.mk rfl ?_)
 exact ⟨l, rfl, j, d⟩}
 {
 refine Aj (Bj g hp c) rfl rfl ?_
 intro m e
 obtain rfl := so H
 exact Fin.pan (C := cfg) (fn := Tryz.f67) ⟨rfl, e⟩}

theorem H4 {n : Nat} {b : (List ByteArray)} {a : ByteArray} {e : A} {R : List Res} {σ : St} (p : Sl rS e b) (hp : Hp σ R) {r : Int} (H : Eu n b a = some r) : Ca cfg 143 [e, (vS a)] σ (gslices_Index_143_post R r) := by
 unfold Eu at H
 refine Ca.enterL (G := [(0, e), (1, (vS a))]) Tryz.func143 rfl rfl rfl rfl (Ac (Aa (V rfl (Ab (Ac ?_)))))
 refine Ac (Aa (V rfl (W (Cj p rfl rfl rfl rfl rfl Tryz.underlying29) rfl (V rfl (Ab ?_)))))
 refine Bb ?_
 obtain ⟨j, k, H⟩ := bind_some H
 refine A4 (J := _) (D8 (fl rfl) (Cw (f := (fun m (i : Int × Unit) => Dj n b a m i.1)) (G := (fun (i : Int × Unit) => ([(0, e), (1, (vS a)), (7, (vI ((b.length : Nat) : Int))), (8, (vI i.1))] : List (Nat × A)))) (I := (fun (i : Int × Unit) (s : St) => Hp s R)) (J := (fun (v : LR Unit Int) (x : X) (φ : Fr) (s : St) => match v with | .out _ => x = (.exit 0) ∧ (Hp s R ∧ Fl [] φ) | .ret r => x = .ret ∧ Ret cfg Tryz.f143 (gslices_Index_143_post R r) .ret φ s)) (fun _ => rfl) ?_ n (0, ()) _ j hp k)) ?_
 {
 rintro m ⟨h, _⟩ q v g H ih
 change Dj n b a (m + 1) h = some v at H
 rw [Dj] at H
 change Ec _ _ _ [(0, e), (1, (vS a)), (7, (vI ((b.length : Nat) : Int))), (8, (vI h))] q _
 refine Ac (Aa (V rfl (Ab (Ac ?_))))
 refine An (t := (decide (h < ((b.length : Nat) : Int)))) rfl (fun c => ?_) (fun c => ?_)
 {
 have H := Au c H
 refine A7 (Ac (Bb (Ac (Aa (V rfl ?_)))))
 refine V rfl (Ab (Ac (Aa ?_)))
 iterate 3 refine V rfl ?_
 obtain ⟨u, hvx17, H⟩ := bind_some H
 refine F8 p hvx17 rfl rfl rfl Tryz.underlying29 rfl rfl rfl rfl ?_
 rintro w a2 _ hat20 rfl
 refine W (Hx hat20 0 rfl rfl rfl rfl rfl) rfl (W (B9 rfl (Bi _ _)) rfl (Ab ?_))
 refine An (t := (decide (a = u))) rfl (fun d => ?_) (fun d => ?_)
 {
 have H := Au d H
 refine Ac (Aa (V rfl (V rfl (Ab ?_))))
 obtain rfl := so H
 refine Aw ?_
 refine And.intro rfl (Ret.mk rfl ?_)
 exact ⟨rfl, g⟩}
 {
 have H := Av d H
 refine A7 (Aa (V rfl (V rfl (Ab ?_))))
 exact Be (fl rfl) (ih ((IntKind.wrap .i64 (h + 1)), ()) _ g H)}}
 {
 have H := Av c H
 refine D9 ?_
 obtain rfl := so H
 exact And.intro rfl ⟨g, (.nil')⟩}}
 {
 rcases j with _ | a3
 {
 intro x y z hJ
 obtain ⟨rfl, l, o⟩ := hJ
 refine Be (F := []) o (Ac (Aa (V rfl (Ab ?_))))
 obtain rfl := so H
 refine Aw (Ret.mk rfl ?_)
 exact ⟨rfl, l⟩}
 {
 intro x a0 a1 hJ
 obtain rfl := so H
 obtain ⟨rfl, hr⟩ := hJ
 exact hr}}

theorem Kp {n : Nat} {d : (List ByteArray)} {a : ByteArray} {b : A} {R : List Res} {σ : St} (f : Sl rS b d) (hp : Hp σ R) {r : Bool} (H : Fb n d a = some r) : Ca cfg 105 [b, (vS a)] σ (gslices_Contains_105_post R r) := by
 unfold Fb at H
 refine Ca.enterL (G := [(0, b), (1, (vS a))]) Tryz.func105 rfl rfl rfl rfl (Ac (Aa (V rfl (Ab (Ac ?_)))))
 refine Aa (V rfl (V rfl ?_))
 obtain ⟨h, c, H⟩ := bind_some H
 refine A2 rfl rfl rfl rfl (H4 f hp c) ?_
 rintro _ g ⟨rfl, e⟩
 refine V rfl (V rfl (Ab ?_))
 obtain rfl := so H
 refine Aw (Ret.mk rfl ?_)
 exact ⟨rfl, e⟩

theorem gisadl_fileName_ok {n : Nat} {a : Fz} {R : List Res} {σ : St} (hp : Hp σ R) {r : ByteArray} (H : Kb n a = some r) : Ca cfg 108 [(.agg [(vS a.f_Name), (vI a.f_Count), (vI a.f_Width), (vI a.f_Zero)])] σ (gisadl_fileName_post R r) := by
 unfold Kb at H
 refine Ca.enterL (G := [(0, (.agg [(vS a.f_Name), (vI a.f_Count), (vI a.f_Width), (vI a.f_Zero)]))]) Tryz.func108 rfl rfl rfl rfl (Ac (Aa (Cb hp rfl rfl rfl rfl rfl rfl rfl ?_)))
 intro d c b
 refine V rfl (Ab (Ac (Aa (V rfl (W (Ag b 0 rfl rfl rfl rfl) rfl ?_)))))
 refine V rfl (Ab ?_)
 obtain rfl := so H
 refine Aw (Ret.mk rfl ?_)
 exact ⟨rfl, (Hp.pick b 1 [] rfl)⟩

theorem gisadl_fresh_1_147_108_ok {n : Nat} {c : Nat} {d : Nat} {a : Fz} {b : ByteArray} {R : List Res} {σ : St} (hp : Hp σ (.blk c (.cells [(.fn (.func 108) [] [])] 171) :: .blk d (.cells [(vS b)] 9) :: R)) {r : Bool} (H : It n a b = some r) : Ca cfg 147 [(.agg [(vS a.f_Name), (vI a.f_Count), (vI a.f_Width), (vI a.f_Zero)]), (.ptr c 0), (.ptr d 0)] σ (gisadl_fresh_1_147_108_post c d b R r) := by
 unfold It at H
 refine Ca.enterL (G := [(0, (.agg [(vS a.f_Name), (vI a.f_Count), (vI a.f_Width), (vI a.f_Zero)])), (1, (.ptr c 0)), (2, (.ptr d 0))]) Tryz.func147 rfl rfl rfl rfl (Ac (Aa (Cb hp rfl rfl rfl rfl rfl rfl rfl ?_)))
 intro q p e
 refine V rfl (Ab (Ac ?_))
 obtain ⟨f, h, H⟩ := bind_some H
 refine A4 (J := (fun (f : Bool) (x : X) (φ : Fr) (s : St) => x = .normal ∧ (Hp s (.blk c (.cells [(.fn (.func 108) [] [])] 171) :: .blk d (.cells [(vS b)] 9) :: R) ∧ Fl [(4, (vB f))] φ)) f) ?_ ?_
 {
 have H := h
 refine Fw (by kernel_rfl) (Az (Ag e 1 rfl rfl rfl rfl) rfl rfl rfl rfl rfl (Az (Ag e 0 rfl rfl rfl rfl) rfl rfl rfl rfl rfl ?_))
 obtain ⟨t, i, H⟩ := bind_some H
 refine Bk (gisadl_fileName_ok e i) rfl rfl rfl rfl rfl (fun _ _ _ => (Bd (by kernel_rfl) (Bd (by kernel_rfl) A6))) ?_
 rintro _ l ⟨rfl, g⟩
 refine A9 (Ag g 2 rfl rfl rfl rfl) rfl rfl rfl rfl (stP_op rfl (Ag e 2 rfl rfl rfl rfl) A8) (A9 (B9 rfl (Bi _ _)) rfl rfl rfl rfl (Ar rfl A8) (A9 rfl rfl rfl rfl rfl (Ar rfl A8) (Dh ?_)))
 obtain rfl := so H
 exact And.intro rfl (And.intro rfl ⟨(Hp.pick g 1 [] rfl), (fl rfl)⟩)}
 {
 intro x m o hJ
 obtain ⟨rfl, j, k⟩ := hJ
 refine Be (F := [(4, (vB f))]) k ?_
 obtain rfl := so H
 refine Aw (Ret.mk rfl ?_)
 exact ⟨rfl, j⟩}

theorem gslices_IndexFunc_149_147_108_ok {n : Nat} {b : Nat} {c : Nat} {d : (List Fz)} {a : ByteArray} {j : A} {R : List Res} {σ : St} (y : Sl rTFile j d) (hp : Hp σ (.blk b (.cells [(.fn (.func 108) [] [])] 171) :: .blk c (.cells [(vS a)] 9) :: R)) {r : Int} (H : Dk n d a = some r) : Ca cfg 149 [j, (.fn (.func 147) [] [(.ptr b 0), (.ptr c 0)])] σ (G8 b c a R r) := by
 unfold Dk at H
 refine Ca.enterL (G := [(0, j), (1, (.fn (.func 147) [] [(.ptr b 0), (.ptr c 0)]))]) Tryz.func149 rfl rfl rfl rfl (Ac (Aa (V rfl (Ab (Ac ?_)))))
 refine Ac (Aa (V rfl (W (Cj y rfl rfl rfl rfl rfl Tryz.underlying27) rfl (V rfl (Ab ?_)))))
 refine Bb ?_
 obtain ⟨o, q, H⟩ := bind_some H
 refine A4 (J := _) (D8 (fl rfl) (Cw (f := (fun m (i : Int × Unit) => Bp n d a m i.1)) (G := (fun (i : Int × Unit) => ([(0, j), (1, (.fn (.func 147) [] [(.ptr b 0), (.ptr c 0)])), (7, (vI ((d.length : Nat) : Int))), (8, (vI i.1))] : List (Nat × A)))) (I := (fun (i : Int × Unit) (s : St) => Hp s (.blk b (.cells [(.fn (.func 108) [] [])] 171) :: .blk c (.cells [(vS a)] 9) :: R))) (J := (fun (v : LR Unit Int) (x : X) (φ : Fr) (s : St) => match v with | .out _ => x = (.exit 0) ∧ (Hp s (.blk b (.cells [(.fn (.func 108) [] [])] 171) :: .blk c (.cells [(vS a)] 9) :: R) ∧ Fl [] φ) | .ret r => x = .ret ∧ Ret cfg Tryz.f149 (G8 b c a R r) .ret φ s)) (fun _ => rfl) ?_ n (0, ()) _ o hp q)) ?_
 {
 rintro m ⟨h, _⟩ z v p H ih
 change Bp n d a (m + 1) h = some v at H
 rw [Bp] at H
 change Ec _ _ _ [(0, j), (1, (.fn (.func 147) [] [(.ptr b 0), (.ptr c 0)])), (7, (vI ((d.length : Nat) : Int))), (8, (vI h))] z _
 refine Ac (Aa (V rfl (Ab (Ac ?_))))
 refine An (t := (decide (h < ((d.length : Nat) : Int)))) rfl (fun e => ?_) (fun e => ?_)
 {
 have H := Au e H
 refine A7 (Ac (Bb (Ac (Aa (V rfl ?_)))))
 refine V rfl (Ab (Ac (Aa ?_)))
 iterate 3 refine V rfl ?_
 obtain ⟨a7, hvx23, H⟩ := bind_some H
 refine F8 y hvx23 rfl rfl rfl Tryz.underlying27 rfl rfl rfl rfl ?_
 rintro a1 a8 _ hat26 rfl
 refine W (Eb hat26 0 rfl rfl rfl rfl rfl rfl) rfl ?_
 obtain ⟨a0, l, H⟩ := bind_some H
 refine A2 rfl rfl rfl rfl (gisadl_fresh_1_147_108_ok p l) ?_
 rintro _ a2 ⟨rfl, k⟩
 refine Ab ?_
 refine An (t := a0) rfl (fun g => ?_) (fun g => ?_)
 {
 have H := Au g H
 refine Ac (Aa (V rfl (V rfl (Ab ?_))))
 obtain rfl := so H
 refine Aw ?_
 refine And.intro rfl (Ret.mk rfl ?_)
 exact ⟨rfl, k⟩}
 {
 have H := Av g H
 refine A7 (Aa (V rfl (V rfl (Ab ?_))))
 exact Be (fl rfl) (ih ((IntKind.wrap .i64 (h + 1)), ()) _ k H)}}
 {
 have H := Av e H
 refine D9 ?_
 obtain rfl := so H
 exact And.intro rfl ⟨p, (.nil')⟩}}
 {
 rcases o with _ | a9
 {
 intro x a3 a4 hJ
 obtain ⟨rfl, u, w⟩ := hJ
 refine Be (F := []) w (Ac (Aa (V rfl (Ab ?_))))
 obtain rfl := so H
 refine Aw (Ret.mk rfl ?_)
 exact ⟨rfl, u⟩}
 {
 intro x a5 a6 hJ
 obtain rfl := so H
 obtain ⟨rfl, hr⟩ := hJ
 exact hr}}

theorem J7 {n : Nat} {a : Nat} {b : Nat} {f : (List Fz)} {c : ByteArray} {d : A} {R : List Res} {σ : St} (h : Sl rTFile d f) (hp : Hp σ (.blk a (.cells [(.fn (.func 108) [] [])] 171) :: .blk b (.cells [(vS c)] 9) :: R)) {r : Bool} (H : C1 n f c = some r) : Ca cfg 146 [d, (.fn (.func 147) [] [(.ptr a 0), (.ptr b 0)])] σ (Ju a b c R r) := by
 unfold C1 at H
 refine Ca.enterL (G := [(0, d), (1, (.fn (.func 147) [] [(.ptr a 0), (.ptr b 0)]))]) Tryz.func146 rfl rfl rfl rfl (Ac (Aa (V rfl (Ab (Ac ?_)))))
 refine Aa (V rfl (V rfl ?_))
 obtain ⟨j, e, H⟩ := bind_some H
 refine A2 rfl rfl rfl rfl (gslices_IndexFunc_149_147_108_ok h hp e) ?_
 rintro _ i ⟨rfl, g⟩
 refine V rfl (V rfl (Ab ?_))
 obtain rfl := so H
 refine Aw (Ret.mk rfl ?_)
 exact ⟨rfl, g⟩

theorem Kq {n : Nat} {l : (List Fz)} {f : ByteArray} {g : Int} {h : A} {R : List Res} {σ : St} (m : Sl rTFile h l) (hp : Hp σ R) {r : (PR ByteArray Int)} (H : F9 n l f g = some r) : CaO cfg 107 [h, (vS f), (vI g), (.fn (.func 108) [] [])] σ (gisadl_fresh_107_108_post R r) := by
 unfold F9 at H
 refine CaO.enterL (G := [(0, h), (1, (vS f)), (2, (vI g)), (3, (.fn (.func 108) [] []))]) Tryz.func107 rfl rfl rfl rfl (Ac (Aa (Cb hp rfl rfl rfl rfl rfl rfl rfl ?_)))
 intro a4 y o
 refine Cb o rfl rfl rfl rfl rfl rfl rfl ?_
 intro a5 z p
 refine V rfl (Ab (Ac (Aa (V rfl (V rfl ?_)))))
 obtain ⟨a6, i, H⟩ := bind_some H
 refine A2 rfl rfl rfl rfl (J7 m p i) ?_
 rintro _ t ⟨rfl, a⟩
 refine V rfl ?_
 obtain ⟨q, b, H⟩ := bind_some H
 rcases q with a0 | a1
 {
 refine Ai (Ah a b) rfl rfl rfl rfl ?_
 rintro _ u ⟨rfl, c⟩
 refine Ab (Ac (Aa (V rfl (W (Cj m rfl rfl rfl rfl rfl Tryz.underlying27) rfl (V rfl ?_)))))
 refine V rfl ?_
 obtain ⟨s, d, H⟩ := bind_some H
 rcases s with a2 | a3
 {
 refine Ai (Ah c d) rfl rfl rfl rfl ?_
 rintro _ v ⟨rfl, e⟩
 refine Ab (Ac (Aa (W (Ag e 1 rfl rfl rfl rfl) rfl (V rfl (Ab ?_)))))
 obtain rfl := so H
 refine Aw (Fin.mk rfl ?_)
 exact ⟨rfl, (Hp.pick e 2 [] rfl)⟩}
 {
 refine Aj (Ah c d) rfl rfl ?_
 intro w j
 obtain rfl := so H
 exact Fin.pan (C := cfg) (fn := Tryz.f107) ⟨rfl, (Hp.pick j 2 [] rfl)⟩}}
 {
 refine Aj (Ah a b) rfl rfl ?_
 intro x k
 obtain rfl := so H
 exact Fin.pan (C := cfg) (fn := Tryz.f107) ⟨rfl, (Hp.pick k 2 [] rfl)⟩}

theorem Bg {n : Nat} {a : Nat} {b : (List Ae)} {i : A} {R : List Res} {σ : St} (j : Sl A0 i b) (hp : Hp σ (.blk a (.cells [i] 167) :: R)) {r : (PR (Int × (List Ae)) Int)} (H : Fi n b = some r) : CaO cfg 73 [(.ptr a 0)] σ (gc_num_post a R r) := by
 unfold Fi at H
 refine CaO.enterL (G := [(0, (.ptr a 0))]) Tryz.func73 rfl rfl rfl rfl (Ac (Aa (V rfl (Ab (Ac ?_)))))
 refine Aa (V rfl ?_)
 obtain ⟨k, c, H⟩ := bind_some H
 rcases k with l | v
 {
 refine Ai (Bj j hp c) rfl rfl rfl rfl ?_
 obtain ⟨y, z⟩ := l
 rintro _ p ⟨a0, q, rfl, a1, m, d⟩
 refine V rfl (V rfl (Ab (Ac (Aa (V rfl ?_)))))
 refine V rfl ?_
 obtain ⟨o, e, H⟩ := bind_some H
 rcases o with w | x
 {
 refine Ai (Ah d e) rfl rfl rfl rfl ?_
 rintro _ s ⟨rfl, f⟩
 refine Ab (Ac (Aa (V rfl (V rfl (Ab ?_)))))
 obtain rfl := so H
 refine Aw (Fin.mk rfl ?_)
 exact ⟨q, rfl, m, f⟩}
 {
 refine Aj (Ah d e) rfl rfl ?_
 intro t g
 obtain rfl := so H
 exact Fin.pan (C := cfg) (fn := Tryz.f73) ⟨rfl, (Hp.pick g 1 [] rfl)⟩}}
 {
 refine Aj (Bj j hp c) rfl rfl ?_
 intro u h
 obtain rfl := so H
 exact Fin.pan (C := cfg) (fn := Tryz.f73) ⟨rfl, h⟩}

theorem gc_is_ok {n : Nat} {a : Nat} {g : (List Ae)} {h : ByteArray} {i : A} {R : List Res} {σ : St} (j : Sl A0 i g) (hp : Hp σ (.blk a (.cells [i] 167) :: R)) {r : (Bool × (List Ae))} (H : gc_is n g h = some r) : Ca cfg 109 [(.ptr a 0), (vS h)] σ (gc_is_post a R r) := by
 unfold gc_is at H
 refine Ca.enterL (G := [(0, (.ptr a 0)), (1, (vS h))]) Tryz.func109 rfl rfl rfl rfl (Ac (Aa (V rfl (Ab (Ac ?_)))))
 refine Ac (Aa (V rfl ?_))
 obtain ⟨a1, q, H⟩ := bind_some H
 refine A2 rfl rfl rfl rfl (Hl j hp q) ?_
 rintro _ a9 ⟨rfl, k⟩
 refine V rfl ?_
 obtain ⟨b, u, H⟩ := bind_some H
 refine H1 9 (J := (fun (b : Bool) (x : X) (φ : Fr) (s : St) => x = .normal ∧ (Hp s (.blk a (.cells [i] 167) :: R) ∧ Fl [(0, (.ptr a 0)), (1, (vS h)), (16, (vB b))] φ)) b) ?_ ?_
 {
 have H := u
 cases l : a1
 {
 have H := Av l H
 iterate 8 refine Co rfl rfl rfl ?_
 refine V rfl (Ab ?_)
 obtain rfl := so H
 exact And.intro rfl ⟨k, (fl rfl)⟩}
 {
 have H := Au l H
 iterate 3 refine V rfl ?_
 refine W (Ag k 0 rfl rfl rfl rfl) rfl ?_
 obtain ⟨aa, hvx18, H⟩ := bind_some H
 refine F8 j hvx18 rfl rfl rfl Tryz.underlying23 rfl rfl rfl rfl ?_
 intro a2 ab _ hat21 hr24
 obtain ⟨ac, rfl, ad⟩ := rTTree_un hr24
 refine V rfl (W (Hx hat21 0 rfl rfl rfl rfl rfl) rfl (V rfl (V rfl (Ab ?_))))
 obtain rfl := so H
 exact And.intro rfl ⟨k, (fl rfl)⟩}}
 {
 intro x a3 a4 hJ
 obtain ⟨rfl, d, v⟩ := hJ
 refine ⟨rfl, Eo.of (F := [(0, (.ptr a 0)), (1, (vS h)), (16, (vB b))]) v ?_⟩
 refine V rfl ?_
 obtain ⟨c, w, H⟩ := bind_some H
 refine H1 10 (J := (fun (c : Bool) (x : X) (φ : Fr) (s : St) => x = .normal ∧ (Hp s (.blk a (.cells [i] 167) :: R) ∧ Fl [(0, (.ptr a 0)), (27, (vB c))] φ)) c) ?_ ?_
 {
 have H := w
 cases m : b
 {
 have H := Av m H
 iterate 9 refine Co rfl rfl rfl ?_
 refine V rfl (Ab ?_)
 obtain rfl := so H
 exact And.intro rfl ⟨d, (fl rfl)⟩}
 {
 have H := Au m H
 iterate 3 refine V rfl ?_
 refine W (Ag d 0 rfl rfl rfl rfl) rfl ?_
 obtain ⟨ae, hvx39, H⟩ := bind_some H
 refine F8 j hvx39 rfl rfl rfl Tryz.underlying23 rfl rfl rfl rfl ?_
 intro a5 af _ hat42 hr45
 obtain ⟨ag, rfl, ah⟩ := rTTree_un hr45
 refine V rfl (W (Hx hat42 1 rfl rfl rfl rfl rfl) rfl (V rfl (W (B9 rfl (Bi _ _)) rfl (V rfl (Ab ?_)))))
 obtain rfl := so H
 exact And.intro rfl ⟨d, (fl rfl)⟩}}
 {
 intro x a6 a7 hJ
 obtain ⟨rfl, e, y⟩ := hJ
 refine ⟨rfl, Eo.of (F := [(0, (.ptr a 0)), (27, (vB c))]) y ?_⟩
 refine Ab ?_
 refine An (t := c) rfl (fun f => ?_) (fun f => ?_)
 {
 have H := Au f H
 refine Ac (Aa ?_)
 iterate 4 refine V rfl ?_
 refine W (Ag e 0 rfl rfl rfl rfl) rfl ?_
 obtain ⟨ai, p, H⟩ := bind_some H
 refine Eo.subL j p rfl rfl Tryz.underlying23 rfl (.inr ⟨_, _, rfl, rfl⟩) (.inl ⟨rfl, rfl⟩) rfl rfl rfl ?_
 intro a0 o
 refine V rfl (V rfl (Al e 0 rfl (Af (o.cells) rfl rfl (by exact on o.isOne on0) rfl rfl) rfl rfl rfl rfl rfl ?_))
 intro a8 z
 refine Ab (Ac (Aa (V rfl (Ab ?_))))
 obtain rfl := so H
 refine Aw (Ret.mk rfl ?_)
 exact ⟨a0, rfl, o, z⟩}
 {
 have H := Av f H
 refine A7 (Ac (Aa (V rfl (Ab ?_))))
 obtain rfl := so H
 refine Aw (Ret.mk rfl ?_)
 exact ⟨i, rfl, j, e⟩}}}

theorem gisadl_aliasName_ok {n : Nat} {a : Dt} {R : List Res} {σ : St} (hp : Hp σ R) {r : ByteArray} (H : gisadl_aliasName n a = some r) : Ca cfg 71 [(.agg [(vS a.f_Name), (vI a.f_File), (vI a.f_Num)])] σ (gisadl_aliasName_post R r) := by
 unfold gisadl_aliasName at H
 refine Ca.enterL (G := [(0, (.agg [(vS a.f_Name), (vI a.f_File), (vI a.f_Num)]))]) Tryz.func71 rfl rfl rfl rfl (Ac (Aa (Cb hp rfl rfl rfl rfl rfl rfl rfl ?_)))
 intro d c b
 refine V rfl (Ab (Ac (Aa (V rfl (W (Ag b 0 rfl rfl rfl rfl) rfl ?_)))))
 refine V rfl (Ab ?_)
 obtain rfl := so H
 refine Aw (Ret.mk rfl ?_)
 exact ⟨rfl, (Hp.pick b 1 [] rfl)⟩

theorem gisadl_fresh_1_111_71_ok {n : Nat} {b : Nat} {c : Nat} {d : Dt} {a : ByteArray} {R : List Res} {σ : St} (hp : Hp σ (.blk b (.cells [(.fn (.func 71) [] [])] 144) :: .blk c (.cells [(vS a)] 9) :: R)) {r : Bool} (H : I8 n d a = some r) : Ca cfg 111 [(.agg [(vS d.f_Name), (vI d.f_File), (vI d.f_Num)]), (.ptr b 0), (.ptr c 0)] σ (gisadl_fresh_1_111_71_post b c a R r) := by
 unfold I8 at H
 refine Ca.enterL (G := [(0, (.agg [(vS d.f_Name), (vI d.f_File), (vI d.f_Num)])), (1, (.ptr b 0)), (2, (.ptr c 0))]) Tryz.func111 rfl rfl rfl rfl (Ac (Aa (Cb hp rfl rfl rfl rfl rfl rfl rfl ?_)))
 intro q p e
 refine V rfl (Ab (Ac ?_))
 obtain ⟨f, h, H⟩ := bind_some H
 refine A4 (J := (fun (f : Bool) (x : X) (φ : Fr) (s : St) => x = .normal ∧ (Hp s (.blk b (.cells [(.fn (.func 71) [] [])] 144) :: .blk c (.cells [(vS a)] 9) :: R) ∧ Fl [(4, (vB f))] φ)) f) ?_ ?_
 {
 have H := h
 refine Fw (by kernel_rfl) (Az (Ag e 1 rfl rfl rfl rfl) rfl rfl rfl rfl rfl (Az (Ag e 0 rfl rfl rfl rfl) rfl rfl rfl rfl rfl ?_))
 obtain ⟨t, i, H⟩ := bind_some H
 refine Bk (gisadl_aliasName_ok e i) rfl rfl rfl rfl rfl (fun _ _ _ => (Bd (by kernel_rfl) (Bd (by kernel_rfl) A6))) ?_
 rintro _ l ⟨rfl, g⟩
 refine A9 (Ag g 2 rfl rfl rfl rfl) rfl rfl rfl rfl (stP_op rfl (Ag e 2 rfl rfl rfl rfl) A8) (A9 (B9 rfl (Bi _ _)) rfl rfl rfl rfl (Ar rfl A8) (A9 rfl rfl rfl rfl rfl (Ar rfl A8) (Dh ?_)))
 obtain rfl := so H
 exact And.intro rfl (And.intro rfl ⟨(Hp.pick g 1 [] rfl), (fl rfl)⟩)}
 {
 intro x m o hJ
 obtain ⟨rfl, j, k⟩ := hJ
 refine Be (F := [(4, (vB f))]) k ?_
 obtain rfl := so H
 refine Aw (Ret.mk rfl ?_)
 exact ⟨rfl, j⟩}

theorem gslices_IndexFunc_148_111_71_ok {n : Nat} {b : Nat} {c : Nat} {d : (List Dt)} {a : ByteArray} {j : A} {R : List Res} {σ : St} (y : Sl rTAlias j d) (hp : Hp σ (.blk b (.cells [(.fn (.func 71) [] [])] 144) :: .blk c (.cells [(vS a)] 9) :: R)) {r : Int} (H : Dw n d a = some r) : Ca cfg 148 [j, (.fn (.func 111) [] [(.ptr b 0), (.ptr c 0)])] σ (Ho b c a R r) := by
 unfold Dw at H
 refine Ca.enterL (G := [(0, j), (1, (.fn (.func 111) [] [(.ptr b 0), (.ptr c 0)]))]) Tryz.func148 rfl rfl rfl rfl (Ac (Aa (V rfl (Ab (Ac ?_)))))
 refine Ac (Aa (V rfl (W (Cj y rfl rfl rfl rfl rfl Tryz.underlying28) rfl (V rfl (Ab ?_)))))
 refine Bb ?_
 obtain ⟨o, q, H⟩ := bind_some H
 refine A4 (J := _) (D8 (fl rfl) (Cw (f := (fun m (i : Int × Unit) => Bx n d a m i.1)) (G := (fun (i : Int × Unit) => ([(0, j), (1, (.fn (.func 111) [] [(.ptr b 0), (.ptr c 0)])), (7, (vI ((d.length : Nat) : Int))), (8, (vI i.1))] : List (Nat × A)))) (I := (fun (i : Int × Unit) (s : St) => Hp s (.blk b (.cells [(.fn (.func 71) [] [])] 144) :: .blk c (.cells [(vS a)] 9) :: R))) (J := (fun (v : LR Unit Int) (x : X) (φ : Fr) (s : St) => match v with | .out _ => x = (.exit 0) ∧ (Hp s (.blk b (.cells [(.fn (.func 71) [] [])] 144) :: .blk c (.cells [(vS a)] 9) :: R) ∧ Fl [] φ) | .ret r => x = .ret ∧ Ret cfg Tryz.f148 (Ho b c a R r) .ret φ s)) (fun _ => rfl) ?_ n (0, ()) _ o hp q)) ?_
 {
 rintro m ⟨h, _⟩ z v p H ih
 change Bx n d a (m + 1) h = some v at H
 rw [Bx] at H
 change Ec _ _ _ [(0, j), (1, (.fn (.func 111) [] [(.ptr b 0), (.ptr c 0)])), (7, (vI ((d.length : Nat) : Int))), (8, (vI h))] z _
 refine Ac (Aa (V rfl (Ab (Ac ?_))))
 refine An (t := (decide (h < ((d.length : Nat) : Int)))) rfl (fun e => ?_) (fun e => ?_)
 {
 have H := Au e H
 refine A7 (Ac (Bb (Ac (Aa (V rfl ?_)))))
 refine V rfl (Ab (Ac (Aa ?_)))
 iterate 3 refine V rfl ?_
 obtain ⟨a7, hvx23, H⟩ := bind_some H
 refine F8 y hvx23 rfl rfl rfl Tryz.underlying28 rfl rfl rfl rfl ?_
 rintro a1 a8 _ hat26 rfl
 refine W (Eb hat26 0 rfl rfl rfl rfl rfl rfl) rfl ?_
 obtain ⟨a0, l, H⟩ := bind_some H
 refine A2 rfl rfl rfl rfl (gisadl_fresh_1_111_71_ok p l) ?_
 rintro _ a2 ⟨rfl, k⟩
 refine Ab ?_
 refine An (t := a0) rfl (fun g => ?_) (fun g => ?_)
 {
 have H := Au g H
 refine Ac (Aa (V rfl (V rfl (Ab ?_))))
 obtain rfl := so H
 refine Aw ?_
 refine And.intro rfl (Ret.mk rfl ?_)
 exact ⟨rfl, k⟩}
 {
 have H := Av g H
 refine A7 (Aa (V rfl (V rfl (Ab ?_))))
 exact Be (fl rfl) (ih ((IntKind.wrap .i64 (h + 1)), ()) _ k H)}}
 {
 have H := Av e H
 refine D9 ?_
 obtain rfl := so H
 exact And.intro rfl ⟨p, (.nil')⟩}}
 {
 rcases o with _ | a9
 {
 intro x a3 a4 hJ
 obtain ⟨rfl, u, w⟩ := hJ
 refine Be (F := []) w (Ac (Aa (V rfl (Ab ?_))))
 obtain rfl := so H
 refine Aw (Ret.mk rfl ?_)
 exact ⟨rfl, u⟩}
 {
 intro x a5 a6 hJ
 obtain rfl := so H
 obtain ⟨rfl, hr⟩ := hJ
 exact hr}}

theorem Kf {n : Nat} {a : Nat} {b : Nat} {f : (List Dt)} {c : ByteArray} {d : A} {R : List Res} {σ : St} (h : Sl rTAlias d f) (hp : Hp σ (.blk a (.cells [(.fn (.func 71) [] [])] 144) :: .blk b (.cells [(vS c)] 9) :: R)) {r : Bool} (H : C6 n f c = some r) : Ca cfg 110 [d, (.fn (.func 111) [] [(.ptr a 0), (.ptr b 0)])] σ (J0 a b c R r) := by
 unfold C6 at H
 refine Ca.enterL (G := [(0, d), (1, (.fn (.func 111) [] [(.ptr a 0), (.ptr b 0)]))]) Tryz.func110 rfl rfl rfl rfl (Ac (Aa (V rfl (Ab (Ac ?_)))))
 refine Aa (V rfl (V rfl ?_))
 obtain ⟨j, e, H⟩ := bind_some H
 refine A2 rfl rfl rfl rfl (gslices_IndexFunc_148_111_71_ok h hp e) ?_
 rintro _ i ⟨rfl, g⟩
 refine V rfl (V rfl (Ab ?_))
 obtain rfl := so H
 refine Aw (Ret.mk rfl ?_)
 exact ⟨rfl, g⟩

theorem Hn {n : Nat} {l : (List Dt)} {f : ByteArray} {g : Int} {h : A} {R : List Res} {σ : St} (m : Sl rTAlias h l) (hp : Hp σ R) {r : (PR ByteArray Int)} (H : Fy n l f g = some r) : CaO cfg 70 [h, (vS f), (vI g), (.fn (.func 71) [] [])] σ (gisadl_fresh_70_71_post R r) := by
 unfold Fy at H
 refine CaO.enterL (G := [(0, h), (1, (vS f)), (2, (vI g)), (3, (.fn (.func 71) [] []))]) Tryz.func70 rfl rfl rfl rfl (Ac (Aa (Cb hp rfl rfl rfl rfl rfl rfl rfl ?_)))
 intro a4 y o
 refine Cb o rfl rfl rfl rfl rfl rfl rfl ?_
 intro a5 z p
 refine V rfl (Ab (Ac (Aa (V rfl (V rfl ?_)))))
 obtain ⟨a6, i, H⟩ := bind_some H
 refine A2 rfl rfl rfl rfl (Kf m p i) ?_
 rintro _ t ⟨rfl, a⟩
 refine V rfl ?_
 obtain ⟨q, b, H⟩ := bind_some H
 rcases q with a0 | a1
 {
 refine Ai (Ah a b) rfl rfl rfl rfl ?_
 rintro _ u ⟨rfl, c⟩
 refine Ab (Ac (Aa (V rfl (W (Cj m rfl rfl rfl rfl rfl Tryz.underlying28) rfl (V rfl ?_)))))
 refine V rfl ?_
 obtain ⟨s, d, H⟩ := bind_some H
 rcases s with a2 | a3
 {
 refine Ai (Ah c d) rfl rfl rfl rfl ?_
 rintro _ v ⟨rfl, e⟩
 refine Ab (Ac (Aa (W (Ag e 1 rfl rfl rfl rfl) rfl (V rfl (Ab ?_)))))
 obtain rfl := so H
 refine Aw (Fin.mk rfl ?_)
 exact ⟨rfl, (Hp.pick e 2 [] rfl)⟩}
 {
 refine Aj (Ah c d) rfl rfl ?_
 intro w j
 obtain rfl := so H
 exact Fin.pan (C := cfg) (fn := Tryz.f70) ⟨rfl, (Hp.pick j 2 [] rfl)⟩}}
 {
 refine Aj (Ah a b) rfl rfl ?_
 intro x k
 obtain rfl := so H
 exact Fin.pan (C := cfg) (fn := Tryz.f70) ⟨rfl, (Hp.pick k 2 [] rfl)⟩}

theorem gisadl_place_1_150_108_ok {n : Nat} {c : Nat} {d : Nat} {a : Fz} {b : ByteArray} {R : List Res} {σ : St} (hp : Hp σ (.blk c (.cells [(.fn (.func 108) [] [])] 171) :: .blk d (.cells [(vS b)] 9) :: R)) {r : Bool} (H : Iu n a b = some r) : Ca cfg 150 [(.agg [(vS a.f_Name), (vI a.f_Count), (vI a.f_Width), (vI a.f_Zero)]), (.ptr c 0), (.ptr d 0)] σ (gisadl_place_1_150_108_post c d b R r) := by
 unfold Iu at H
 refine Ca.enterL (G := [(0, (.agg [(vS a.f_Name), (vI a.f_Count), (vI a.f_Width), (vI a.f_Zero)])), (1, (.ptr c 0)), (2, (.ptr d 0))]) Tryz.func150 rfl rfl rfl rfl (Ac (Aa (Cb hp rfl rfl rfl rfl rfl rfl rfl ?_)))
 intro q p e
 refine V rfl (Ab (Ac ?_))
 obtain ⟨f, h, H⟩ := bind_some H
 refine A4 (J := (fun (f : Bool) (x : X) (φ : Fr) (s : St) => x = .normal ∧ (Hp s (.blk c (.cells [(.fn (.func 108) [] [])] 171) :: .blk d (.cells [(vS b)] 9) :: R) ∧ Fl [(4, (vB f))] φ)) f) ?_ ?_
 {
 have H := h
 refine Fw (by kernel_rfl) (Az (Ag e 1 rfl rfl rfl rfl) rfl rfl rfl rfl rfl (Az (Ag e 0 rfl rfl rfl rfl) rfl rfl rfl rfl rfl ?_))
 obtain ⟨t, i, H⟩ := bind_some H
 refine Bk (gisadl_fileName_ok e i) rfl rfl rfl rfl rfl (fun _ _ _ => (Bd (by kernel_rfl) (Bd (by kernel_rfl) A6))) ?_
 rintro _ l ⟨rfl, g⟩
 refine A9 (Ag g 2 rfl rfl rfl rfl) rfl rfl rfl rfl (stP_op rfl (Ag e 2 rfl rfl rfl rfl) A8) (A9 (B9 rfl (Bi _ _)) rfl rfl rfl rfl (Ar rfl A8) (A9 rfl rfl rfl rfl rfl (Ar rfl A8) (Dh ?_)))
 obtain rfl := so H
 exact And.intro rfl (And.intro rfl ⟨(Hp.pick g 1 [] rfl), (fl rfl)⟩)}
 {
 intro x m o hJ
 obtain ⟨rfl, j, k⟩ := hJ
 refine Be (F := [(4, (vB f))]) k ?_
 obtain rfl := so H
 refine Aw (Ret.mk rfl ?_)
 exact ⟨rfl, j⟩}

theorem gslices_IndexFunc_149_150_108_ok {n : Nat} {b : Nat} {c : Nat} {d : (List Fz)} {a : ByteArray} {j : A} {R : List Res} {σ : St} (y : Sl rTFile j d) (hp : Hp σ (.blk b (.cells [(.fn (.func 108) [] [])] 171) :: .blk c (.cells [(vS a)] 9) :: R)) {r : Int} (H : Dl n d a = some r) : Ca cfg 149 [j, (.fn (.func 150) [] [(.ptr b 0), (.ptr c 0)])] σ (G9 b c a R r) := by
 unfold Dl at H
 refine Ca.enterL (G := [(0, j), (1, (.fn (.func 150) [] [(.ptr b 0), (.ptr c 0)]))]) Tryz.func149 rfl rfl rfl rfl (Ac (Aa (V rfl (Ab (Ac ?_)))))
 refine Ac (Aa (V rfl (W (Cj y rfl rfl rfl rfl rfl Tryz.underlying27) rfl (V rfl (Ab ?_)))))
 refine Bb ?_
 obtain ⟨o, q, H⟩ := bind_some H
 refine A4 (J := _) (D8 (fl rfl) (Cw (f := (fun m (i : Int × Unit) => Bq n d a m i.1)) (G := (fun (i : Int × Unit) => ([(0, j), (1, (.fn (.func 150) [] [(.ptr b 0), (.ptr c 0)])), (7, (vI ((d.length : Nat) : Int))), (8, (vI i.1))] : List (Nat × A)))) (I := (fun (i : Int × Unit) (s : St) => Hp s (.blk b (.cells [(.fn (.func 108) [] [])] 171) :: .blk c (.cells [(vS a)] 9) :: R))) (J := (fun (v : LR Unit Int) (x : X) (φ : Fr) (s : St) => match v with | .out _ => x = (.exit 0) ∧ (Hp s (.blk b (.cells [(.fn (.func 108) [] [])] 171) :: .blk c (.cells [(vS a)] 9) :: R) ∧ Fl [] φ) | .ret r => x = .ret ∧ Ret cfg Tryz.f149 (G9 b c a R r) .ret φ s)) (fun _ => rfl) ?_ n (0, ()) _ o hp q)) ?_
 {
 rintro m ⟨h, _⟩ z v p H ih
 change Bq n d a (m + 1) h = some v at H
 rw [Bq] at H
 change Ec _ _ _ [(0, j), (1, (.fn (.func 150) [] [(.ptr b 0), (.ptr c 0)])), (7, (vI ((d.length : Nat) : Int))), (8, (vI h))] z _
 refine Ac (Aa (V rfl (Ab (Ac ?_))))
 refine An (t := (decide (h < ((d.length : Nat) : Int)))) rfl (fun e => ?_) (fun e => ?_)
 {
 have H := Au e H
 refine A7 (Ac (Bb (Ac (Aa (V rfl ?_)))))
 refine V rfl (Ab (Ac (Aa ?_)))
 iterate 3 refine V rfl ?_
 obtain ⟨a7, hvx23, H⟩ := bind_some H
 refine F8 y hvx23 rfl rfl rfl Tryz.underlying27 rfl rfl rfl rfl ?_
 rintro a1 a8 _ hat26 rfl
 refine W (Eb hat26 0 rfl rfl rfl rfl rfl rfl) rfl ?_
 obtain ⟨a0, l, H⟩ := bind_some H
 refine A2 rfl rfl rfl rfl (gisadl_place_1_150_108_ok p l) ?_
 rintro _ a2 ⟨rfl, k⟩
 refine Ab ?_
 refine An (t := a0) rfl (fun g => ?_) (fun g => ?_)
 {
 have H := Au g H
 refine Ac (Aa (V rfl (V rfl (Ab ?_))))
 obtain rfl := so H
 refine Aw ?_
 refine And.intro rfl (Ret.mk rfl ?_)
 exact ⟨rfl, k⟩}
 {
 have H := Av g H
 refine A7 (Aa (V rfl (V rfl (Ab ?_))))
 exact Be (fl rfl) (ih ((IntKind.wrap .i64 (h + 1)), ()) _ k H)}}
 {
 have H := Av e H
 refine D9 ?_
 obtain rfl := so H
 exact And.intro rfl ⟨p, (.nil')⟩}}
 {
 rcases o with _ | a9
 {
 intro x a3 a4 hJ
 obtain ⟨rfl, u, w⟩ := hJ
 refine Be (F := []) w (Ac (Aa (V rfl (Ab ?_))))
 obtain rfl := so H
 refine Aw (Ret.mk rfl ?_)
 exact ⟨rfl, u⟩}
 {
 intro x a5 a6 hJ
 obtain rfl := so H
 obtain ⟨rfl, hr⟩ := hJ
 exact hr}}

theorem Ef {n : Nat} {h : (List Fz)} {c : ByteArray} {d : A} {R : List Res} {σ : St} (l : Sl rTFile d h) (hp : Hp σ R) {r : (PR Int Int)} (H : Ek n h c = some r) : CaO cfg 112 [d, (vS c), (.fn (.func 108) [] [])] σ (gisadl_place_112_108_post R r) := by
 unfold Ek at H
 refine CaO.enterL (G := [(0, d), (1, (vS c)), (2, (.fn (.func 108) [] []))]) Tryz.func112 rfl rfl rfl rfl (Ac (Aa (Cb hp rfl rfl rfl rfl rfl rfl rfl ?_)))
 intro v q i
 refine Cb i rfl rfl rfl rfl rfl rfl rfl ?_
 intro w s j
 refine V rfl (Ab (Ac (Aa (V rfl (V rfl ?_)))))
 obtain ⟨x, e, H⟩ := bind_some H
 refine A2 rfl rfl rfl rfl (gslices_IndexFunc_149_150_108_ok l j e) ?_
 rintro _ m ⟨rfl, a⟩
 refine V rfl (Ab (Ac (Aa (V rfl (V rfl ?_)))))
 obtain ⟨k, b, H⟩ := bind_some H
 rcases k with t | u
 {
 refine Ai (Ah a b) rfl rfl rfl rfl ?_
 rintro _ o ⟨rfl, f⟩
 refine Ab (Ac (Aa (V rfl (V rfl (Ab ?_)))))
 obtain rfl := so H
 refine Aw (Fin.mk rfl ?_)
 exact ⟨rfl, (Hp.pick f 2 [] rfl)⟩}
 {
 refine Aj (Ah a b) rfl rfl ?_
 intro p g
 obtain rfl := so H
 exact Fin.pan (C := cfg) (fn := Tryz.f112) ⟨rfl, (Hp.pick g 2 [] rfl)⟩}

theorem gisadl_flagName_ok {n : Nat} {a : ByteArray} {R : List Res} {σ : St} (hp : Hp σ R) {r : ByteArray} (H : Kc n a = some r) : Ca cfg 75 [(vS a)] σ (gisadl_flagName_post R r) := by
 unfold Kc at H
 refine Ca.enterL (G := [(0, (vS a))]) Tryz.func75 rfl rfl rfl rfl (Ac (Aa (V rfl (Ab (Ac ?_)))))
 refine Aa (V rfl (V rfl (Ab ?_)))
 obtain rfl := so H
 refine Aw (Ret.mk rfl ?_)
 exact ⟨rfl, hp⟩

theorem gisadl_fresh_1_114_75_ok {n : Nat} {b : Nat} {c : Nat} {f : ByteArray} {a : ByteArray} {R : List Res} {σ : St} (hp : Hp σ (.blk b (.cells [(.fn (.func 75) [] [])] 147) :: .blk c (.cells [(vS a)] 9) :: R)) {r : Bool} (H : I9 n f a = some r) : Ca cfg 114 [(vS f), (.ptr b 0), (.ptr c 0)] σ (gisadl_fresh_1_114_75_post b c a R r) := by
 unfold I9 at H
 refine Ca.enterL (G := [(0, (vS f)), (1, (.ptr b 0)), (2, (.ptr c 0))]) Tryz.func114 rfl rfl rfl rfl (Ac (Aa (V rfl (Ab (Ac ?_)))))
 obtain ⟨d, g, H⟩ := bind_some H
 refine A4 (J := (fun (d : Bool) (x : X) (φ : Fr) (s : St) => x = .normal ∧ (Hp s (.blk b (.cells [(.fn (.func 75) [] [])] 147) :: .blk c (.cells [(vS a)] 9) :: R) ∧ Fl [(4, (vB d))] φ)) d) ?_ ?_
 {
 have H := g
 refine Fw (by kernel_rfl) (Az (Ag hp 0 rfl rfl rfl rfl) rfl rfl rfl rfl rfl (Az rfl rfl rfl rfl rfl rfl ?_))
 obtain ⟨o, h, H⟩ := bind_some H
 refine Bk (gisadl_flagName_ok hp h) rfl rfl rfl rfl rfl (fun _ _ _ => (Ad rfl (Bd (by kernel_rfl) A6))) ?_
 rintro _ l ⟨rfl, e⟩
 refine A9 (Ag e 1 rfl rfl rfl rfl) rfl rfl rfl rfl (stP_op rfl (Ag hp 1 rfl rfl rfl rfl) A8) (A9 (B9 rfl (Bi _ _)) rfl rfl rfl rfl (Ar rfl A8) (A9 rfl rfl rfl rfl rfl (Ar rfl A8) (Dh ?_)))
 obtain rfl := so H
 exact And.intro rfl (And.intro rfl ⟨e, (fl rfl)⟩)}
 {
 intro x k m hJ
 obtain ⟨rfl, j, i⟩ := hJ
 refine Be (F := [(4, (vB d))]) i ?_
 obtain rfl := so H
 refine Aw (Ret.mk rfl ?_)
 exact ⟨rfl, j⟩}

theorem gslices_IndexFunc_151_114_75_ok {n : Nat} {b : Nat} {c : Nat} {d : (List ByteArray)} {a : ByteArray} {j : A} {R : List Res} {σ : St} (y : Sl rS j d) (hp : Hp σ (.blk b (.cells [(.fn (.func 75) [] [])] 147) :: .blk c (.cells [(vS a)] 9) :: R)) {r : Int} (H : Dx n d a = some r) : Ca cfg 151 [j, (.fn (.func 114) [] [(.ptr b 0), (.ptr c 0)])] σ (Hq b c a R r) := by
 unfold Dx at H
 refine Ca.enterL (G := [(0, j), (1, (.fn (.func 114) [] [(.ptr b 0), (.ptr c 0)]))]) Tryz.func151 rfl rfl rfl rfl (Ac (Aa (V rfl (Ab (Ac ?_)))))
 refine Ac (Aa (V rfl (W (Cj y rfl rfl rfl rfl rfl Tryz.underlying29) rfl (V rfl (Ab ?_)))))
 refine Bb ?_
 obtain ⟨o, q, H⟩ := bind_some H
 refine A4 (J := _) (D8 (fl rfl) (Cw (f := (fun m (i : Int × Unit) => Bz n d a m i.1)) (G := (fun (i : Int × Unit) => ([(0, j), (1, (.fn (.func 114) [] [(.ptr b 0), (.ptr c 0)])), (7, (vI ((d.length : Nat) : Int))), (8, (vI i.1))] : List (Nat × A)))) (I := (fun (i : Int × Unit) (s : St) => Hp s (.blk b (.cells [(.fn (.func 75) [] [])] 147) :: .blk c (.cells [(vS a)] 9) :: R))) (J := (fun (v : LR Unit Int) (x : X) (φ : Fr) (s : St) => match v with | .out _ => x = (.exit 0) ∧ (Hp s (.blk b (.cells [(.fn (.func 75) [] [])] 147) :: .blk c (.cells [(vS a)] 9) :: R) ∧ Fl [] φ) | .ret r => x = .ret ∧ Ret cfg Tryz.f151 (Hq b c a R r) .ret φ s)) (fun _ => rfl) ?_ n (0, ()) _ o hp q)) ?_
 {
 rintro m ⟨h, _⟩ z v p H ih
 change Bz n d a (m + 1) h = some v at H
 rw [Bz] at H
 change Ec _ _ _ [(0, j), (1, (.fn (.func 114) [] [(.ptr b 0), (.ptr c 0)])), (7, (vI ((d.length : Nat) : Int))), (8, (vI h))] z _
 refine Ac (Aa (V rfl (Ab (Ac ?_))))
 refine An (t := (decide (h < ((d.length : Nat) : Int)))) rfl (fun e => ?_) (fun e => ?_)
 {
 have H := Au e H
 refine A7 (Ac (Bb (Ac (Aa (V rfl ?_)))))
 refine V rfl (Ab (Ac (Aa ?_)))
 iterate 3 refine V rfl ?_
 obtain ⟨a7, hvx23, H⟩ := bind_some H
 refine F8 y hvx23 rfl rfl rfl Tryz.underlying29 rfl rfl rfl rfl ?_
 rintro a1 a8 _ hat26 rfl
 refine W (Hx hat26 0 rfl rfl rfl rfl rfl) rfl ?_
 obtain ⟨a0, l, H⟩ := bind_some H
 refine A2 rfl rfl rfl rfl (gisadl_fresh_1_114_75_ok p l) ?_
 rintro _ a2 ⟨rfl, k⟩
 refine Ab ?_
 refine An (t := a0) rfl (fun g => ?_) (fun g => ?_)
 {
 have H := Au g H
 refine Ac (Aa (V rfl (V rfl (Ab ?_))))
 obtain rfl := so H
 refine Aw ?_
 refine And.intro rfl (Ret.mk rfl ?_)
 exact ⟨rfl, k⟩}
 {
 have H := Av g H
 refine A7 (Aa (V rfl (V rfl (Ab ?_))))
 exact Be (fl rfl) (ih ((IntKind.wrap .i64 (h + 1)), ()) _ k H)}}
 {
 have H := Av e H
 refine D9 ?_
 obtain rfl := so H
 exact And.intro rfl ⟨p, (.nil')⟩}}
 {
 rcases o with _ | a9
 {
 intro x a3 a4 hJ
 obtain ⟨rfl, u, w⟩ := hJ
 refine Be (F := []) w (Ac (Aa (V rfl (Ab ?_))))
 obtain rfl := so H
 refine Aw (Ret.mk rfl ?_)
 exact ⟨rfl, u⟩}
 {
 intro x a5 a6 hJ
 obtain rfl := so H
 obtain ⟨rfl, hr⟩ := hJ
 exact hr}}

theorem Kg {n : Nat} {a : Nat} {b : Nat} {f : (List ByteArray)} {c : ByteArray} {d : A} {R : List Res} {σ : St} (h : Sl rS d f) (hp : Hp σ (.blk a (.cells [(.fn (.func 75) [] [])] 147) :: .blk b (.cells [(vS c)] 9) :: R)) {r : Bool} (H : C7 n f c = some r) : Ca cfg 113 [d, (.fn (.func 114) [] [(.ptr a 0), (.ptr b 0)])] σ (J1 a b c R r) := by
 unfold C7 at H
 refine Ca.enterL (G := [(0, d), (1, (.fn (.func 114) [] [(.ptr a 0), (.ptr b 0)]))]) Tryz.func113 rfl rfl rfl rfl (Ac (Aa (V rfl (Ab (Ac ?_)))))
 refine Aa (V rfl (V rfl ?_))
 obtain ⟨j, e, H⟩ := bind_some H
 refine A2 rfl rfl rfl rfl (gslices_IndexFunc_151_114_75_ok h hp e) ?_
 rintro _ i ⟨rfl, g⟩
 refine V rfl (V rfl (Ab ?_))
 obtain rfl := so H
 refine Aw (Ret.mk rfl ?_)
 exact ⟨rfl, g⟩

theorem gisadl_fresh_74_75_ok {n : Nat} {l : (List ByteArray)} {f : ByteArray} {g : Int} {h : A} {R : List Res} {σ : St} (m : Sl rS h l) (hp : Hp σ R) {r : (PR ByteArray Int)} (H : Ha n l f g = some r) : CaO cfg 74 [h, (vS f), (vI g), (.fn (.func 75) [] [])] σ (gisadl_fresh_74_75_post R r) := by
 unfold Ha at H
 refine CaO.enterL (G := [(0, h), (1, (vS f)), (2, (vI g)), (3, (.fn (.func 75) [] []))]) Tryz.func74 rfl rfl rfl rfl (Ac (Aa (Cb hp rfl rfl rfl rfl rfl rfl rfl ?_)))
 intro a4 y o
 refine Cb o rfl rfl rfl rfl rfl rfl rfl ?_
 intro a5 z p
 refine V rfl (Ab (Ac (Aa (V rfl (V rfl ?_)))))
 obtain ⟨a6, i, H⟩ := bind_some H
 refine A2 rfl rfl rfl rfl (Kg m p i) ?_
 rintro _ t ⟨rfl, a⟩
 refine V rfl ?_
 obtain ⟨q, b, H⟩ := bind_some H
 rcases q with a0 | a1
 {
 refine Ai (Ah a b) rfl rfl rfl rfl ?_
 rintro _ u ⟨rfl, c⟩
 refine Ab (Ac (Aa (V rfl (W (Cj m rfl rfl rfl rfl rfl Tryz.underlying29) rfl (V rfl ?_)))))
 refine V rfl ?_
 obtain ⟨s, d, H⟩ := bind_some H
 rcases s with a2 | a3
 {
 refine Ai (Ah c d) rfl rfl rfl rfl ?_
 rintro _ v ⟨rfl, e⟩
 refine Ab (Ac (Aa (W (Ag e 1 rfl rfl rfl rfl) rfl (V rfl (Ab ?_)))))
 obtain rfl := so H
 refine Aw (Fin.mk rfl ?_)
 exact ⟨rfl, (Hp.pick e 2 [] rfl)⟩}
 {
 refine Aj (Ah c d) rfl rfl ?_
 intro w j
 obtain rfl := so H
 exact Fin.pan (C := cfg) (fn := Tryz.f74) ⟨rfl, (Hp.pick j 2 [] rfl)⟩}}
 {
 refine Aj (Ah a b) rfl rfl ?_
 intro x k
 obtain rfl := so H
 exact Fin.pan (C := cfg) (fn := Tryz.f74) ⟨rfl, (Hp.pick k 2 [] rfl)⟩}

theorem gisadl_className_ok {n : Nat} {a : Ee} {c : A} {R : List Res} {σ : St} (d : Sl (rI .i64) c a.f_Except) (hp : Hp σ R) {r : ByteArray} (H : Jv n a = some r) : Ca cfg 116 [(.agg [(vS a.f_Name), (vI a.f_Kind), (vI a.f_File), (vI a.f_Bits), (vI a.f_Shift), (vI a.f_Plus), c])] σ (gisadl_className_post R r) := by
 unfold Jv at H
 refine Ca.enterL (G := [(0, (.agg [(vS a.f_Name), (vI a.f_Kind), (vI a.f_File), (vI a.f_Bits), (vI a.f_Shift), (vI a.f_Plus), c]))]) Tryz.func116 rfl rfl rfl rfl (Ac (Aa (Cb hp rfl (by exact on rfl (on rfl (on rfl (on rfl (on rfl (on rfl (on d.isOne on0))))))) rfl rfl rfl rfl rfl ?_)))
 intro f e b
 refine V rfl (Ab (Ac (Aa (V rfl (W (Ag b 0 rfl rfl rfl rfl) rfl ?_)))))
 refine V rfl (Ab ?_)
 obtain rfl := so H
 refine Aw (Ret.mk rfl ?_)
 exact ⟨rfl, (Hp.pick b 1 [] rfl)⟩

theorem gisadl_fresh_1_153_116_ok {n : Nat} {c : Nat} {d : Nat} {a : Ee} {b : ByteArray} {i : A} {R : List Res} {σ : St} (m : Sl (rI .i64) i a.f_Except) (hp : Hp σ (.blk c (.cells [(.fn (.func 116) [] [])] 177) :: .blk d (.cells [(vS b)] 9) :: R)) {r : Bool} (H : Iv n a b = some r) : Ca cfg 153 [(.agg [(vS a.f_Name), (vI a.f_Kind), (vI a.f_File), (vI a.f_Bits), (vI a.f_Shift), (vI a.f_Plus), i]), (.ptr c 0), (.ptr d 0)] σ (gisadl_fresh_1_153_116_post c d b R r) := by
 unfold Iv at H
 refine Ca.enterL (G := [(0, (.agg [(vS a.f_Name), (vI a.f_Kind), (vI a.f_File), (vI a.f_Bits), (vI a.f_Shift), (vI a.f_Plus), i])), (1, (.ptr c 0)), (2, (.ptr d 0))]) Tryz.func153 rfl rfl rfl rfl (Ac (Aa (Cb hp rfl (by exact on rfl (on rfl (on rfl (on rfl (on rfl (on rfl (on m.isOne on0))))))) rfl rfl rfl rfl rfl ?_)))
 intro v t e
 refine V rfl (Ab (Ac ?_))
 obtain ⟨g, j, H⟩ := bind_some H
 refine A4 (J := (fun (g : Bool) (x : X) (φ : Fr) (s : St) => x = .normal ∧ (Hp s (.blk c (.cells [(.fn (.func 116) [] [])] 177) :: .blk d (.cells [(vS b)] 9) :: R) ∧ Fl [(4, (vB g))] φ)) g) ?_ ?_
 {
 have H := j
 refine Fw (by kernel_rfl) (Az (Ag e 1 rfl rfl rfl rfl) rfl rfl rfl rfl rfl (Az (Ag e 0 rfl rfl rfl rfl) rfl rfl rfl rfl rfl ?_))
 obtain ⟨u, h, H⟩ := bind_some H
 refine Bk (gisadl_className_ok m e h) rfl rfl rfl rfl rfl (fun _ _ _ => (Bd (by kernel_rfl) (Bd (by kernel_rfl) A6))) ?_
 rintro _ o ⟨rfl, f⟩
 refine A9 (Ag f 2 rfl rfl rfl rfl) rfl rfl rfl rfl (stP_op rfl (Ag e 2 rfl rfl rfl rfl) A8) (A9 (B9 rfl (Bi _ _)) rfl rfl rfl rfl (Ar rfl A8) (A9 rfl rfl rfl rfl rfl (Ar rfl A8) (Dh ?_)))
 obtain rfl := so H
 exact And.intro rfl (And.intro rfl ⟨(Hp.pick f 1 [] rfl), (fl rfl)⟩)}
 {
 intro x p q hJ
 obtain ⟨rfl, k, l⟩ := hJ
 refine Be (F := [(4, (vB g))]) l ?_
 obtain rfl := so H
 refine Aw (Ret.mk rfl ?_)
 exact ⟨rfl, k⟩}

theorem gslices_IndexFunc_184_153_116_ok {n : Nat} {b : Nat} {c : Nat} {d : (List Ee)} {a : ByteArray} {j : A} {R : List Res} {σ : St} (y : Sl rTClass j d) (hp : Hp σ (.blk b (.cells [(.fn (.func 116) [] [])] 177) :: .blk c (.cells [(vS a)] 9) :: R)) {r : Int} (H : Dm n d a = some r) : Ca cfg 184 [j, (.fn (.func 153) [] [(.ptr b 0), (.ptr c 0)])] σ (Hb b c a R r) := by
 unfold Dm at H
 refine Ca.enterL (G := [(0, j), (1, (.fn (.func 153) [] [(.ptr b 0), (.ptr c 0)]))]) Tryz.func184 rfl rfl rfl rfl (Ac (Aa (V rfl (Ab (Ac ?_)))))
 refine Ac (Aa (V rfl (W (Cj y rfl rfl rfl rfl rfl Tryz.underlying30) rfl (V rfl (Ab ?_)))))
 refine Bb ?_
 obtain ⟨o, q, H⟩ := bind_some H
 refine A4 (J := _) (D8 (fl rfl) (Cw (f := (fun m (i : Int × Unit) => Br n d a m i.1)) (G := (fun (i : Int × Unit) => ([(0, j), (1, (.fn (.func 153) [] [(.ptr b 0), (.ptr c 0)])), (7, (vI ((d.length : Nat) : Int))), (8, (vI i.1))] : List (Nat × A)))) (I := (fun (i : Int × Unit) (s : St) => Hp s (.blk b (.cells [(.fn (.func 116) [] [])] 177) :: .blk c (.cells [(vS a)] 9) :: R))) (J := (fun (v : LR Unit Int) (x : X) (φ : Fr) (s : St) => match v with | .out _ => x = (.exit 0) ∧ (Hp s (.blk b (.cells [(.fn (.func 116) [] [])] 177) :: .blk c (.cells [(vS a)] 9) :: R) ∧ Fl [] φ) | .ret r => x = .ret ∧ Ret cfg Tryz.f184 (Hb b c a R r) .ret φ s)) (fun _ => rfl) ?_ n (0, ()) _ o hp q)) ?_
 {
 rintro m ⟨h, _⟩ z v p H ih
 change Br n d a (m + 1) h = some v at H
 rw [Br] at H
 change Ec _ _ _ [(0, j), (1, (.fn (.func 153) [] [(.ptr b 0), (.ptr c 0)])), (7, (vI ((d.length : Nat) : Int))), (8, (vI h))] z _
 refine Ac (Aa (V rfl (Ab (Ac ?_))))
 refine An (t := (decide (h < ((d.length : Nat) : Int)))) rfl (fun e => ?_) (fun e => ?_)
 {
 have H := Au e H
 refine A7 (Ac (Bb (Ac (Aa (V rfl ?_)))))
 refine V rfl (Ab (Ac (Aa ?_)))
 iterate 3 refine V rfl ?_
 obtain ⟨a8, hvx27, H⟩ := bind_some H
 refine F8 y hvx27 rfl rfl rfl Tryz.underlying30 rfl rfl rfl rfl ?_
 rintro a2 a9 _ hat30 ⟨aa, rfl, a0⟩
 refine W (Eb hat30 0 rfl rfl rfl rfl rfl rfl) rfl ?_
 obtain ⟨a1, l, H⟩ := bind_some H
 refine A2 rfl rfl rfl rfl (gisadl_fresh_1_153_116_ok a0 p l) ?_
 rintro _ a3 ⟨rfl, k⟩
 refine Ab ?_
 refine An (t := a1) rfl (fun g => ?_) (fun g => ?_)
 {
 have H := Au g H
 refine Ac (Aa (V rfl (V rfl (Ab ?_))))
 obtain rfl := so H
 refine Aw ?_
 refine And.intro rfl (Ret.mk rfl ?_)
 exact ⟨rfl, k⟩}
 {
 have H := Av g H
 refine A7 (Aa (V rfl (V rfl (Ab ?_))))
 exact Be (fl rfl) (ih ((IntKind.wrap .i64 (h + 1)), ()) _ k H)}}
 {
 have H := Av e H
 refine D9 ?_
 obtain rfl := so H
 exact And.intro rfl ⟨p, (.nil')⟩}}
 {
 rcases o with _ | ab
 {
 intro x a4 a5 hJ
 obtain ⟨rfl, u, w⟩ := hJ
 refine Be (F := []) w (Ac (Aa (V rfl (Ab ?_))))
 obtain rfl := so H
 refine Aw (Ret.mk rfl ?_)
 exact ⟨rfl, u⟩}
 {
 intro x a6 a7 hJ
 obtain rfl := so H
 obtain ⟨rfl, hr⟩ := hJ
 exact hr}}

theorem J8 {n : Nat} {a : Nat} {b : Nat} {f : (List Ee)} {c : ByteArray} {d : A} {R : List Res} {σ : St} (h : Sl rTClass d f) (hp : Hp σ (.blk a (.cells [(.fn (.func 116) [] [])] 177) :: .blk b (.cells [(vS c)] 9) :: R)) {r : Bool} (H : C2 n f c = some r) : Ca cfg 152 [d, (.fn (.func 153) [] [(.ptr a 0), (.ptr b 0)])] σ (Jw a b c R r) := by
 unfold C2 at H
 refine Ca.enterL (G := [(0, d), (1, (.fn (.func 153) [] [(.ptr a 0), (.ptr b 0)]))]) Tryz.func152 rfl rfl rfl rfl (Ac (Aa (V rfl (Ab (Ac ?_)))))
 refine Aa (V rfl (V rfl ?_))
 obtain ⟨j, e, H⟩ := bind_some H
 refine A2 rfl rfl rfl rfl (gslices_IndexFunc_184_153_116_ok h hp e) ?_
 rintro _ i ⟨rfl, g⟩
 refine V rfl (V rfl (Ab ?_))
 obtain rfl := so H
 refine Aw (Ret.mk rfl ?_)
 exact ⟨rfl, g⟩

theorem Kr {n : Nat} {l : (List Ee)} {f : ByteArray} {g : Int} {h : A} {R : List Res} {σ : St} (m : Sl rTClass h l) (hp : Hp σ R) {r : (PR ByteArray Int)} (H : Ga n l f g = some r) : CaO cfg 115 [h, (vS f), (vI g), (.fn (.func 116) [] [])] σ (gisadl_fresh_115_116_post R r) := by
 unfold Ga at H
 refine CaO.enterL (G := [(0, h), (1, (vS f)), (2, (vI g)), (3, (.fn (.func 116) [] []))]) Tryz.func115 rfl rfl rfl rfl (Ac (Aa (Cb hp rfl rfl rfl rfl rfl rfl rfl ?_)))
 intro a4 y o
 refine Cb o rfl rfl rfl rfl rfl rfl rfl ?_
 intro a5 z p
 refine V rfl (Ab (Ac (Aa (V rfl (V rfl ?_)))))
 obtain ⟨a6, i, H⟩ := bind_some H
 refine A2 rfl rfl rfl rfl (J8 m p i) ?_
 rintro _ t ⟨rfl, a⟩
 refine V rfl ?_
 obtain ⟨q, b, H⟩ := bind_some H
 rcases q with a0 | a1
 {
 refine Ai (Ah a b) rfl rfl rfl rfl ?_
 rintro _ u ⟨rfl, c⟩
 refine Ab (Ac (Aa (V rfl (W (Cj m rfl rfl rfl rfl rfl Tryz.underlying30) rfl (V rfl ?_)))))
 refine V rfl ?_
 obtain ⟨s, d, H⟩ := bind_some H
 rcases s with a2 | a3
 {
 refine Ai (Ah c d) rfl rfl rfl rfl ?_
 rintro _ v ⟨rfl, e⟩
 refine Ab (Ac (Aa (W (Ag e 1 rfl rfl rfl rfl) rfl (V rfl (Ab ?_)))))
 obtain rfl := so H
 refine Aw (Fin.mk rfl ?_)
 exact ⟨rfl, (Hp.pick e 2 [] rfl)⟩}
 {
 refine Aj (Ah c d) rfl rfl ?_
 intro w j
 obtain rfl := so H
 exact Fin.pan (C := cfg) (fn := Tryz.f115) ⟨rfl, (Hp.pick j 2 [] rfl)⟩}}
 {
 refine Aj (Ah a b) rfl rfl ?_
 intro x k
 obtain rfl := so H
 exact Fin.pan (C := cfg) (fn := Tryz.f115) ⟨rfl, (Hp.pick k 2 [] rfl)⟩}

theorem gisadl_formName_ok {n : Nat} {a : F0} {c : A} {d : A} {e : A} {R : List Res} {σ : St} (f : Sl rTArg c a.f_Args) (g : Sl Hm d a.f_Pieces) (h : Sl Cm e a.f_Sem) (hp : Hp σ R) {r : ByteArray} (H : Kd n a = some r) : Ca cfg 83 [(.agg [(vS a.f_Name), (vS a.f_Syntax), c, d, e])] σ (gisadl_formName_post R r) := by
 unfold Kd at H
 refine Ca.enterL (G := [(0, (.agg [(vS a.f_Name), (vS a.f_Syntax), c, d, e]))]) Tryz.func83 rfl rfl rfl rfl (Ac (Aa (Cb hp rfl (by exact on rfl (on rfl (on f.isOne (on g.isOne (on h.isOne on0))))) rfl rfl rfl rfl rfl ?_)))
 intro j i b
 refine V rfl (Ab (Ac (Aa (V rfl (W (Ag b 0 rfl rfl rfl rfl) rfl ?_)))))
 refine V rfl (Ab ?_)
 obtain rfl := so H
 refine Aw (Ret.mk rfl ?_)
 exact ⟨rfl, (Hp.pick b 1 [] rfl)⟩

theorem gisadl_fresh_1_155_83_ok {n : Nat} {b : Nat} {c : Nat} {d : F0} {a : ByteArray} {i : A} {j : A} {k : A} {R : List Res} {σ : St} (p : Sl rTArg i d.f_Args) (q : Sl Hm j d.f_Pieces) (t : Sl Cm k d.f_Sem) (hp : Hp σ (.blk b (.cells [(.fn (.func 83) [] [])] 149) :: .blk c (.cells [(vS a)] 9) :: R)) {r : Bool} (H : Ja n d a = some r) : Ca cfg 155 [(.agg [(vS d.f_Name), (vS d.f_Syntax), i, j, k]), (.ptr b 0), (.ptr c 0)] σ (gisadl_fresh_1_155_83_post b c a R r) := by
 unfold Ja at H
 refine Ca.enterL (G := [(0, (.agg [(vS d.f_Name), (vS d.f_Syntax), i, j, k])), (1, (.ptr b 0)), (2, (.ptr c 0))]) Tryz.func155 rfl rfl rfl rfl (Ac (Aa (Cb hp rfl (by exact on rfl (on rfl (on p.isOne (on q.isOne (on t.isOne on0))))) rfl rfl rfl rfl rfl ?_)))
 intro a0 y e
 refine V rfl (Ab (Ac ?_))
 obtain ⟨f, l, H⟩ := bind_some H
 refine A4 (J := (fun (f : Bool) (x : X) (φ : Fr) (s : St) => x = .normal ∧ (Hp s (.blk b (.cells [(.fn (.func 83) [] [])] 149) :: .blk c (.cells [(vS a)] 9) :: R) ∧ Fl [(4, (vB f))] φ)) f) ?_ ?_
 {
 have H := l
 refine Fw (by kernel_rfl) (Az (Ag e 1 rfl rfl rfl rfl) rfl rfl rfl rfl rfl (Az (Ag e 0 rfl rfl rfl rfl) rfl rfl rfl rfl rfl ?_))
 obtain ⟨z, h, H⟩ := bind_some H
 refine Bk (gisadl_formName_ok p q t e h) rfl rfl rfl rfl rfl (fun _ _ _ => (Bd (by kernel_rfl) (Bd (by kernel_rfl) A6))) ?_
 rintro _ u ⟨rfl, g⟩
 refine A9 (Ag g 2 rfl rfl rfl rfl) rfl rfl rfl rfl (stP_op rfl (Ag e 2 rfl rfl rfl rfl) A8) (A9 (B9 rfl (Bi _ _)) rfl rfl rfl rfl (Ar rfl A8) (A9 rfl rfl rfl rfl rfl (Ar rfl A8) (Dh ?_)))
 obtain rfl := so H
 exact And.intro rfl (And.intro rfl ⟨(Hp.pick g 1 [] rfl), (fl rfl)⟩)}
 {
 intro x v w hJ
 obtain ⟨rfl, m, o⟩ := hJ
 refine Be (F := [(4, (vB f))]) o ?_
 obtain rfl := so H
 refine Aw (Ret.mk rfl ?_)
 exact ⟨rfl, m⟩}

theorem gslices_IndexFunc_130_155_83_ok {n : Nat} {b : Nat} {c : Nat} {d : (List F0)} {a : ByteArray} {j : A} {R : List Res} {σ : St} (y : Sl rTForm j d) (hp : Hp σ (.blk b (.cells [(.fn (.func 83) [] [])] 149) :: .blk c (.cells [(vS a)] 9) :: R)) {r : Int} (H : Dy n d a = some r) : Ca cfg 130 [j, (.fn (.func 155) [] [(.ptr b 0), (.ptr c 0)])] σ (Hr b c a R r) := by
 unfold Dy at H
 refine Ca.enterL (G := [(0, j), (1, (.fn (.func 155) [] [(.ptr b 0), (.ptr c 0)]))]) Tryz.func130 rfl rfl rfl rfl (Ac (Aa (V rfl (Ab (Ac ?_)))))
 refine Ac (Aa (V rfl (W (Cj y rfl rfl rfl rfl rfl Tryz.underlying31) rfl (V rfl (Ab ?_)))))
 refine Bb ?_
 obtain ⟨o, q, H⟩ := bind_some H
 refine A4 (J := _) (D8 (fl rfl) (Cw (f := (fun m (i : Int × Unit) => B0 n d a m i.1)) (G := (fun (i : Int × Unit) => ([(0, j), (1, (.fn (.func 155) [] [(.ptr b 0), (.ptr c 0)])), (7, (vI ((d.length : Nat) : Int))), (8, (vI i.1))] : List (Nat × A)))) (I := (fun (i : Int × Unit) (s : St) => Hp s (.blk b (.cells [(.fn (.func 83) [] [])] 149) :: .blk c (.cells [(vS a)] 9) :: R))) (J := (fun (v : LR Unit Int) (x : X) (φ : Fr) (s : St) => match v with | .out _ => x = (.exit 0) ∧ (Hp s (.blk b (.cells [(.fn (.func 83) [] [])] 149) :: .blk c (.cells [(vS a)] 9) :: R) ∧ Fl [] φ) | .ret r => x = .ret ∧ Ret cfg Tryz.f130 (Hr b c a R r) .ret φ s)) (fun _ => rfl) ?_ n (0, ()) _ o hp q)) ?_
 {
 rintro m ⟨h, _⟩ z v p H ih
 change B0 n d a (m + 1) h = some v at H
 rw [B0] at H
 change Ec _ _ _ [(0, j), (1, (.fn (.func 155) [] [(.ptr b 0), (.ptr c 0)])), (7, (vI ((d.length : Nat) : Int))), (8, (vI h))] z _
 refine Ac (Aa (V rfl (Ab (Ac ?_))))
 refine An (t := (decide (h < ((d.length : Nat) : Int)))) rfl (fun e => ?_) (fun e => ?_)
 {
 have H := Au e H
 refine A7 (Ac (Bb (Ac (Aa (V rfl ?_)))))
 refine V rfl (Ab (Ac (Aa ?_)))
 iterate 3 refine V rfl ?_
 obtain ⟨aa, hvx35, H⟩ := bind_some H
 refine F8 y hvx35 rfl rfl rfl Tryz.underlying31 rfl rfl rfl rfl ?_
 rintro a4 ab _ hat38 ⟨ac, ad, ae, rfl, a0, a1, a2⟩
 refine W (Eb hat38 0 rfl rfl rfl rfl rfl rfl) rfl ?_
 obtain ⟨a3, l, H⟩ := bind_some H
 refine A2 rfl rfl rfl rfl (gisadl_fresh_1_155_83_ok a0 a1 a2 p l) ?_
 rintro _ a5 ⟨rfl, k⟩
 refine Ab ?_
 refine An (t := a3) rfl (fun g => ?_) (fun g => ?_)
 {
 have H := Au g H
 refine Ac (Aa (V rfl (V rfl (Ab ?_))))
 obtain rfl := so H
 refine Aw ?_
 refine And.intro rfl (Ret.mk rfl ?_)
 exact ⟨rfl, k⟩}
 {
 have H := Av g H
 refine A7 (Aa (V rfl (V rfl (Ab ?_))))
 exact Be (fl rfl) (ih ((IntKind.wrap .i64 (h + 1)), ()) _ k H)}}
 {
 have H := Av e H
 refine D9 ?_
 obtain rfl := so H
 exact And.intro rfl ⟨p, (.nil')⟩}}
 {
 rcases o with _ | af
 {
 intro x a6 a7 hJ
 obtain ⟨rfl, u, w⟩ := hJ
 refine Be (F := []) w (Ac (Aa (V rfl (Ab ?_))))
 obtain rfl := so H
 refine Aw (Ret.mk rfl ?_)
 exact ⟨rfl, u⟩}
 {
 intro x a8 a9 hJ
 obtain rfl := so H
 obtain ⟨rfl, hr⟩ := hJ
 exact hr}}

theorem Kh {n : Nat} {a : Nat} {b : Nat} {f : (List F0)} {c : ByteArray} {d : A} {R : List Res} {σ : St} (h : Sl rTForm d f) (hp : Hp σ (.blk a (.cells [(.fn (.func 83) [] [])] 149) :: .blk b (.cells [(vS c)] 9) :: R)) {r : Bool} (H : C8 n f c = some r) : Ca cfg 154 [d, (.fn (.func 155) [] [(.ptr a 0), (.ptr b 0)])] σ (J2 a b c R r) := by
 unfold C8 at H
 refine Ca.enterL (G := [(0, d), (1, (.fn (.func 155) [] [(.ptr a 0), (.ptr b 0)]))]) Tryz.func154 rfl rfl rfl rfl (Ac (Aa (V rfl (Ab (Ac ?_)))))
 refine Aa (V rfl (V rfl ?_))
 obtain ⟨j, e, H⟩ := bind_some H
 refine A2 rfl rfl rfl rfl (gslices_IndexFunc_130_155_83_ok h hp e) ?_
 rintro _ i ⟨rfl, g⟩
 refine V rfl (V rfl (Ab ?_))
 obtain rfl := so H
 refine Aw (Ret.mk rfl ?_)
 exact ⟨rfl, g⟩

theorem gisadl_fresh_118_83_ok {n : Nat} {l : (List F0)} {f : ByteArray} {g : Int} {h : A} {R : List Res} {σ : St} (m : Sl rTForm h l) (hp : Hp σ R) {r : (PR ByteArray Int)} (H : Gn n l f g = some r) : CaO cfg 118 [h, (vS f), (vI g), (.fn (.func 83) [] [])] σ (gisadl_fresh_118_83_post R r) := by
 unfold Gn at H
 refine CaO.enterL (G := [(0, h), (1, (vS f)), (2, (vI g)), (3, (.fn (.func 83) [] []))]) Tryz.func118 rfl rfl rfl rfl (Ac (Aa (Cb hp rfl rfl rfl rfl rfl rfl rfl ?_)))
 intro a4 y o
 refine Cb o rfl rfl rfl rfl rfl rfl rfl ?_
 intro a5 z p
 refine V rfl (Ab (Ac (Aa (V rfl (V rfl ?_)))))
 obtain ⟨a6, i, H⟩ := bind_some H
 refine A2 rfl rfl rfl rfl (Kh m p i) ?_
 rintro _ t ⟨rfl, a⟩
 refine V rfl ?_
 obtain ⟨q, b, H⟩ := bind_some H
 rcases q with a0 | a1
 {
 refine Ai (Ah a b) rfl rfl rfl rfl ?_
 rintro _ u ⟨rfl, c⟩
 refine Ab (Ac (Aa (V rfl (W (Cj m rfl rfl rfl rfl rfl Tryz.underlying31) rfl (V rfl ?_)))))
 refine V rfl ?_
 obtain ⟨s, d, H⟩ := bind_some H
 rcases s with a2 | a3
 {
 refine Ai (Ah c d) rfl rfl rfl rfl ?_
 rintro _ v ⟨rfl, e⟩
 refine Ab (Ac (Aa (W (Ag e 1 rfl rfl rfl rfl) rfl (V rfl (Ab ?_)))))
 obtain rfl := so H
 refine Aw (Fin.mk rfl ?_)
 exact ⟨rfl, (Hp.pick e 2 [] rfl)⟩}
 {
 refine Aj (Ah c d) rfl rfl ?_
 intro w j
 obtain rfl := so H
 exact Fin.pan (C := cfg) (fn := Tryz.f118) ⟨rfl, (Hp.pick j 2 [] rfl)⟩}}
 {
 refine Aj (Ah a b) rfl rfl ?_
 intro x k
 obtain rfl := so H
 exact Fin.pan (C := cfg) (fn := Tryz.f118) ⟨rfl, (Hp.pick k 2 [] rfl)⟩}

theorem gc_text_ok {n : Nat} {a : Nat} {b : (List Ae)} {f : A} {R : List Res} {σ : St} (g : Sl A0 f b) (hp : Hp σ (.blk a (.cells [f] 167) :: R)) {r : (PR (ByteArray × (List Ae)) Int)} (H : gc_text n b = some r) : CaO cfg 119 [(.ptr a 0)] σ (gc_text_post a R r) := by
 unfold gc_text at H
 refine CaO.enterL (G := [(0, (.ptr a 0))]) Tryz.func119 rfl rfl rfl rfl (Ac (Aa (V rfl (Ab (Ac ?_)))))
 refine Aa (V rfl ?_)
 obtain ⟨h, c, H⟩ := bind_some H
 rcases h with i | o
 {
 refine Ai (Bj g hp c) rfl rfl rfl rfl ?_
 obtain ⟨p, q⟩ := i
 rintro _ k ⟨s, l, rfl, t, j, d⟩
 refine V rfl (V rfl (Ab ?_))
 obtain rfl := so H
 refine Aw (Fin.mk rfl ?_)
 exact ⟨l, rfl, j, d⟩}
 {
 refine Aj (Bj g hp c) rfl rfl ?_
 intro m e
 obtain rfl := so H
 exact Fin.pan (C := cfg) (fn := Tryz.f119) ⟨rfl, e⟩}

theorem gisadl_argName_ok {n : Nat} {a : Da} {R : List Res} {σ : St} (hp : Hp σ R) {r : ByteArray} (H : gisadl_argName n a = some r) : Ca cfg 121 [(.agg [(vS a.f_Name), (vI a.f_Class)])] σ (gisadl_argName_post R r) := by
 unfold gisadl_argName at H
 refine Ca.enterL (G := [(0, (.agg [(vS a.f_Name), (vI a.f_Class)]))]) Tryz.func121 rfl rfl rfl rfl (Ac (Aa (Cb hp rfl rfl rfl rfl rfl rfl rfl ?_)))
 intro d c b
 refine V rfl (Ab (Ac (Aa (V rfl (W (Ag b 0 rfl rfl rfl rfl) rfl ?_)))))
 refine V rfl (Ab ?_)
 obtain rfl := so H
 refine Aw (Ret.mk rfl ?_)
 exact ⟨rfl, (Hp.pick b 1 [] rfl)⟩

theorem gisadl_fresh_1_157_121_ok {n : Nat} {b : Nat} {c : Nat} {e : Da} {a : ByteArray} {R : List Res} {σ : St} (hp : Hp σ (.blk b (.cells [(.fn (.func 121) [] [])] 180) :: .blk c (.cells [(vS a)] 9) :: R)) {r : Bool} (H : Iw n e a = some r) : Ca cfg 157 [(.agg [(vS e.f_Name), (vI e.f_Class)]), (.ptr b 0), (.ptr c 0)] σ (gisadl_fresh_1_157_121_post b c a R r) := by
 unfold Iw at H
 refine Ca.enterL (G := [(0, (.agg [(vS e.f_Name), (vI e.f_Class)])), (1, (.ptr b 0)), (2, (.ptr c 0))]) Tryz.func157 rfl rfl rfl rfl (Ac (Aa (Cb hp rfl rfl rfl rfl rfl rfl rfl ?_)))
 intro q p d
 refine V rfl (Ab (Ac ?_))
 obtain ⟨f, h, H⟩ := bind_some H
 refine A4 (J := (fun (f : Bool) (x : X) (φ : Fr) (s : St) => x = .normal ∧ (Hp s (.blk b (.cells [(.fn (.func 121) [] [])] 180) :: .blk c (.cells [(vS a)] 9) :: R) ∧ Fl [(4, (vB f))] φ)) f) ?_ ?_
 {
 have H := h
 refine Fw (by kernel_rfl) (Az (Ag d 1 rfl rfl rfl rfl) rfl rfl rfl rfl rfl (Az (Ag d 0 rfl rfl rfl rfl) rfl rfl rfl rfl rfl ?_))
 obtain ⟨t, i, H⟩ := bind_some H
 refine Bk (gisadl_argName_ok d i) rfl rfl rfl rfl rfl (fun _ _ _ => (Bd (by kernel_rfl) (Bd (by kernel_rfl) A6))) ?_
 rintro _ l ⟨rfl, g⟩
 refine A9 (Ag g 2 rfl rfl rfl rfl) rfl rfl rfl rfl (stP_op rfl (Ag d 2 rfl rfl rfl rfl) A8) (A9 (B9 rfl (Bi _ _)) rfl rfl rfl rfl (Ar rfl A8) (A9 rfl rfl rfl rfl rfl (Ar rfl A8) (Dh ?_)))
 obtain rfl := so H
 exact And.intro rfl (And.intro rfl ⟨(Hp.pick g 1 [] rfl), (fl rfl)⟩)}
 {
 intro x m o hJ
 obtain ⟨rfl, j, k⟩ := hJ
 refine Be (F := [(4, (vB f))]) k ?_
 obtain rfl := so H
 refine Aw (Ret.mk rfl ?_)
 exact ⟨rfl, j⟩}

theorem gslices_IndexFunc_185_157_121_ok {n : Nat} {b : Nat} {c : Nat} {d : (List Da)} {a : ByteArray} {j : A} {R : List Res} {σ : St} (y : Sl rTArg j d) (hp : Hp σ (.blk b (.cells [(.fn (.func 121) [] [])] 180) :: .blk c (.cells [(vS a)] 9) :: R)) {r : Int} (H : Dn n d a = some r) : Ca cfg 185 [j, (.fn (.func 157) [] [(.ptr b 0), (.ptr c 0)])] σ (Hc b c a R r) := by
 unfold Dn at H
 refine Ca.enterL (G := [(0, j), (1, (.fn (.func 157) [] [(.ptr b 0), (.ptr c 0)]))]) Tryz.func185 rfl rfl rfl rfl (Ac (Aa (V rfl (Ab (Ac ?_)))))
 refine Ac (Aa (V rfl (W (Cj y rfl rfl rfl rfl rfl Tryz.underlying46) rfl (V rfl (Ab ?_)))))
 refine Bb ?_
 obtain ⟨o, q, H⟩ := bind_some H
 refine A4 (J := _) (D8 (fl rfl) (Cw (f := (fun m (i : Int × Unit) => Bs n d a m i.1)) (G := (fun (i : Int × Unit) => ([(0, j), (1, (.fn (.func 157) [] [(.ptr b 0), (.ptr c 0)])), (7, (vI ((d.length : Nat) : Int))), (8, (vI i.1))] : List (Nat × A)))) (I := (fun (i : Int × Unit) (s : St) => Hp s (.blk b (.cells [(.fn (.func 121) [] [])] 180) :: .blk c (.cells [(vS a)] 9) :: R))) (J := (fun (v : LR Unit Int) (x : X) (φ : Fr) (s : St) => match v with | .out _ => x = (.exit 0) ∧ (Hp s (.blk b (.cells [(.fn (.func 121) [] [])] 180) :: .blk c (.cells [(vS a)] 9) :: R) ∧ Fl [] φ) | .ret r => x = .ret ∧ Ret cfg Tryz.f185 (Hc b c a R r) .ret φ s)) (fun _ => rfl) ?_ n (0, ()) _ o hp q)) ?_
 {
 rintro m ⟨h, _⟩ z v p H ih
 change Bs n d a (m + 1) h = some v at H
 rw [Bs] at H
 change Ec _ _ _ [(0, j), (1, (.fn (.func 157) [] [(.ptr b 0), (.ptr c 0)])), (7, (vI ((d.length : Nat) : Int))), (8, (vI h))] z _
 refine Ac (Aa (V rfl (Ab (Ac ?_))))
 refine An (t := (decide (h < ((d.length : Nat) : Int)))) rfl (fun e => ?_) (fun e => ?_)
 {
 have H := Au e H
 refine A7 (Ac (Bb (Ac (Aa (V rfl ?_)))))
 refine V rfl (Ab (Ac (Aa ?_)))
 iterate 3 refine V rfl ?_
 obtain ⟨a7, hvx23, H⟩ := bind_some H
 refine F8 y hvx23 rfl rfl rfl Tryz.underlying46 rfl rfl rfl rfl ?_
 rintro a1 a8 _ hat26 rfl
 refine W (Eb hat26 0 rfl rfl rfl rfl rfl rfl) rfl ?_
 obtain ⟨a0, l, H⟩ := bind_some H
 refine A2 rfl rfl rfl rfl (gisadl_fresh_1_157_121_ok p l) ?_
 rintro _ a2 ⟨rfl, k⟩
 refine Ab ?_
 refine An (t := a0) rfl (fun g => ?_) (fun g => ?_)
 {
 have H := Au g H
 refine Ac (Aa (V rfl (V rfl (Ab ?_))))
 obtain rfl := so H
 refine Aw ?_
 refine And.intro rfl (Ret.mk rfl ?_)
 exact ⟨rfl, k⟩}
 {
 have H := Av g H
 refine A7 (Aa (V rfl (V rfl (Ab ?_))))
 exact Be (fl rfl) (ih ((IntKind.wrap .i64 (h + 1)), ()) _ k H)}}
 {
 have H := Av e H
 refine D9 ?_
 obtain rfl := so H
 exact And.intro rfl ⟨p, (.nil')⟩}}
 {
 rcases o with _ | a9
 {
 intro x a3 a4 hJ
 obtain ⟨rfl, u, w⟩ := hJ
 refine Be (F := []) w (Ac (Aa (V rfl (Ab ?_))))
 obtain rfl := so H
 refine Aw (Ret.mk rfl ?_)
 exact ⟨rfl, u⟩}
 {
 intro x a5 a6 hJ
 obtain rfl := so H
 obtain ⟨rfl, hr⟩ := hJ
 exact hr}}

theorem J9 {n : Nat} {a : Nat} {b : Nat} {f : (List Da)} {c : ByteArray} {d : A} {R : List Res} {σ : St} (h : Sl rTArg d f) (hp : Hp σ (.blk a (.cells [(.fn (.func 121) [] [])] 180) :: .blk b (.cells [(vS c)] 9) :: R)) {r : Bool} (H : C3 n f c = some r) : Ca cfg 156 [d, (.fn (.func 157) [] [(.ptr a 0), (.ptr b 0)])] σ (Jx a b c R r) := by
 unfold C3 at H
 refine Ca.enterL (G := [(0, d), (1, (.fn (.func 157) [] [(.ptr a 0), (.ptr b 0)]))]) Tryz.func156 rfl rfl rfl rfl (Ac (Aa (V rfl (Ab (Ac ?_)))))
 refine Aa (V rfl (V rfl ?_))
 obtain ⟨j, e, H⟩ := bind_some H
 refine A2 rfl rfl rfl rfl (gslices_IndexFunc_185_157_121_ok h hp e) ?_
 rintro _ i ⟨rfl, g⟩
 refine V rfl (V rfl (Ab ?_))
 obtain rfl := so H
 refine Aw (Ret.mk rfl ?_)
 exact ⟨rfl, g⟩

theorem Ks {n : Nat} {l : (List Da)} {f : ByteArray} {g : Int} {h : A} {R : List Res} {σ : St} (m : Sl rTArg h l) (hp : Hp σ R) {r : (PR ByteArray Int)} (H : Gb n l f g = some r) : CaO cfg 120 [h, (vS f), (vI g), (.fn (.func 121) [] [])] σ (gisadl_fresh_120_121_post R r) := by
 unfold Gb at H
 refine CaO.enterL (G := [(0, h), (1, (vS f)), (2, (vI g)), (3, (.fn (.func 121) [] []))]) Tryz.func120 rfl rfl rfl rfl (Ac (Aa (Cb hp rfl rfl rfl rfl rfl rfl rfl ?_)))
 intro a4 y o
 refine Cb o rfl rfl rfl rfl rfl rfl rfl ?_
 intro a5 z p
 refine V rfl (Ab (Ac (Aa (V rfl (V rfl ?_)))))
 obtain ⟨a6, i, H⟩ := bind_some H
 refine A2 rfl rfl rfl rfl (J9 m p i) ?_
 rintro _ t ⟨rfl, a⟩
 refine V rfl ?_
 obtain ⟨q, b, H⟩ := bind_some H
 rcases q with a0 | a1
 {
 refine Ai (Ah a b) rfl rfl rfl rfl ?_
 rintro _ u ⟨rfl, c⟩
 refine Ab (Ac (Aa (V rfl (W (Cj m rfl rfl rfl rfl rfl Tryz.underlying46) rfl (V rfl ?_)))))
 refine V rfl ?_
 obtain ⟨s, d, H⟩ := bind_some H
 rcases s with a2 | a3
 {
 refine Ai (Ah c d) rfl rfl rfl rfl ?_
 rintro _ v ⟨rfl, e⟩
 refine Ab (Ac (Aa (W (Ag e 1 rfl rfl rfl rfl) rfl (V rfl (Ab ?_)))))
 obtain rfl := so H
 refine Aw (Fin.mk rfl ?_)
 exact ⟨rfl, (Hp.pick e 2 [] rfl)⟩}
 {
 refine Aj (Ah c d) rfl rfl ?_
 intro w j
 obtain rfl := so H
 exact Fin.pan (C := cfg) (fn := Tryz.f120) ⟨rfl, (Hp.pick j 2 [] rfl)⟩}}
 {
 refine Aj (Ah a b) rfl rfl ?_
 intro x k
 obtain rfl := so H
 exact Fin.pan (C := cfg) (fn := Tryz.f120) ⟨rfl, (Hp.pick k 2 [] rfl)⟩}

theorem gisadl_place_1_186_116_ok {n : Nat} {c : Nat} {d : Nat} {a : Ee} {b : ByteArray} {i : A} {R : List Res} {σ : St} (m : Sl (rI .i64) i a.f_Except) (hp : Hp σ (.blk c (.cells [(.fn (.func 116) [] [])] 177) :: .blk d (.cells [(vS b)] 9) :: R)) {r : Bool} (H : Ix n a b = some r) : Ca cfg 186 [(.agg [(vS a.f_Name), (vI a.f_Kind), (vI a.f_File), (vI a.f_Bits), (vI a.f_Shift), (vI a.f_Plus), i]), (.ptr c 0), (.ptr d 0)] σ (gisadl_place_1_186_116_post c d b R r) := by
 unfold Ix at H
 refine Ca.enterL (G := [(0, (.agg [(vS a.f_Name), (vI a.f_Kind), (vI a.f_File), (vI a.f_Bits), (vI a.f_Shift), (vI a.f_Plus), i])), (1, (.ptr c 0)), (2, (.ptr d 0))]) Tryz.func186 rfl rfl rfl rfl (Ac (Aa (Cb hp rfl (by exact on rfl (on rfl (on rfl (on rfl (on rfl (on rfl (on m.isOne on0))))))) rfl rfl rfl rfl rfl ?_)))
 intro v t e
 refine V rfl (Ab (Ac ?_))
 obtain ⟨g, j, H⟩ := bind_some H
 refine A4 (J := (fun (g : Bool) (x : X) (φ : Fr) (s : St) => x = .normal ∧ (Hp s (.blk c (.cells [(.fn (.func 116) [] [])] 177) :: .blk d (.cells [(vS b)] 9) :: R) ∧ Fl [(4, (vB g))] φ)) g) ?_ ?_
 {
 have H := j
 refine Fw (by kernel_rfl) (Az (Ag e 1 rfl rfl rfl rfl) rfl rfl rfl rfl rfl (Az (Ag e 0 rfl rfl rfl rfl) rfl rfl rfl rfl rfl ?_))
 obtain ⟨u, h, H⟩ := bind_some H
 refine Bk (gisadl_className_ok m e h) rfl rfl rfl rfl rfl (fun _ _ _ => (Bd (by kernel_rfl) (Bd (by kernel_rfl) A6))) ?_
 rintro _ o ⟨rfl, f⟩
 refine A9 (Ag f 2 rfl rfl rfl rfl) rfl rfl rfl rfl (stP_op rfl (Ag e 2 rfl rfl rfl rfl) A8) (A9 (B9 rfl (Bi _ _)) rfl rfl rfl rfl (Ar rfl A8) (A9 rfl rfl rfl rfl rfl (Ar rfl A8) (Dh ?_)))
 obtain rfl := so H
 exact And.intro rfl (And.intro rfl ⟨(Hp.pick f 1 [] rfl), (fl rfl)⟩)}
 {
 intro x p q hJ
 obtain ⟨rfl, k, l⟩ := hJ
 refine Be (F := [(4, (vB g))]) l ?_
 obtain rfl := so H
 refine Aw (Ret.mk rfl ?_)
 exact ⟨rfl, k⟩}

theorem gslices_IndexFunc_184_186_116_ok {n : Nat} {b : Nat} {c : Nat} {d : (List Ee)} {a : ByteArray} {j : A} {R : List Res} {σ : St} (y : Sl rTClass j d) (hp : Hp σ (.blk b (.cells [(.fn (.func 116) [] [])] 177) :: .blk c (.cells [(vS a)] 9) :: R)) {r : Int} (H : Dp n d a = some r) : Ca cfg 184 [j, (.fn (.func 186) [] [(.ptr b 0), (.ptr c 0)])] σ (Hd b c a R r) := by
 unfold Dp at H
 refine Ca.enterL (G := [(0, j), (1, (.fn (.func 186) [] [(.ptr b 0), (.ptr c 0)]))]) Tryz.func184 rfl rfl rfl rfl (Ac (Aa (V rfl (Ab (Ac ?_)))))
 refine Ac (Aa (V rfl (W (Cj y rfl rfl rfl rfl rfl Tryz.underlying30) rfl (V rfl (Ab ?_)))))
 refine Bb ?_
 obtain ⟨o, q, H⟩ := bind_some H
 refine A4 (J := _) (D8 (fl rfl) (Cw (f := (fun m (i : Int × Unit) => Bt n d a m i.1)) (G := (fun (i : Int × Unit) => ([(0, j), (1, (.fn (.func 186) [] [(.ptr b 0), (.ptr c 0)])), (7, (vI ((d.length : Nat) : Int))), (8, (vI i.1))] : List (Nat × A)))) (I := (fun (i : Int × Unit) (s : St) => Hp s (.blk b (.cells [(.fn (.func 116) [] [])] 177) :: .blk c (.cells [(vS a)] 9) :: R))) (J := (fun (v : LR Unit Int) (x : X) (φ : Fr) (s : St) => match v with | .out _ => x = (.exit 0) ∧ (Hp s (.blk b (.cells [(.fn (.func 116) [] [])] 177) :: .blk c (.cells [(vS a)] 9) :: R) ∧ Fl [] φ) | .ret r => x = .ret ∧ Ret cfg Tryz.f184 (Hd b c a R r) .ret φ s)) (fun _ => rfl) ?_ n (0, ()) _ o hp q)) ?_
 {
 rintro m ⟨h, _⟩ z v p H ih
 change Bt n d a (m + 1) h = some v at H
 rw [Bt] at H
 change Ec _ _ _ [(0, j), (1, (.fn (.func 186) [] [(.ptr b 0), (.ptr c 0)])), (7, (vI ((d.length : Nat) : Int))), (8, (vI h))] z _
 refine Ac (Aa (V rfl (Ab (Ac ?_))))
 refine An (t := (decide (h < ((d.length : Nat) : Int)))) rfl (fun e => ?_) (fun e => ?_)
 {
 have H := Au e H
 refine A7 (Ac (Bb (Ac (Aa (V rfl ?_)))))
 refine V rfl (Ab (Ac (Aa ?_)))
 iterate 3 refine V rfl ?_
 obtain ⟨a8, hvx27, H⟩ := bind_some H
 refine F8 y hvx27 rfl rfl rfl Tryz.underlying30 rfl rfl rfl rfl ?_
 rintro a2 a9 _ hat30 ⟨aa, rfl, a0⟩
 refine W (Eb hat30 0 rfl rfl rfl rfl rfl rfl) rfl ?_
 obtain ⟨a1, l, H⟩ := bind_some H
 refine A2 rfl rfl rfl rfl (gisadl_place_1_186_116_ok a0 p l) ?_
 rintro _ a3 ⟨rfl, k⟩
 refine Ab ?_
 refine An (t := a1) rfl (fun g => ?_) (fun g => ?_)
 {
 have H := Au g H
 refine Ac (Aa (V rfl (V rfl (Ab ?_))))
 obtain rfl := so H
 refine Aw ?_
 refine And.intro rfl (Ret.mk rfl ?_)
 exact ⟨rfl, k⟩}
 {
 have H := Av g H
 refine A7 (Aa (V rfl (V rfl (Ab ?_))))
 exact Be (fl rfl) (ih ((IntKind.wrap .i64 (h + 1)), ()) _ k H)}}
 {
 have H := Av e H
 refine D9 ?_
 obtain rfl := so H
 exact And.intro rfl ⟨p, (.nil')⟩}}
 {
 rcases o with _ | ab
 {
 intro x a4 a5 hJ
 obtain ⟨rfl, u, w⟩ := hJ
 refine Be (F := []) w (Ac (Aa (V rfl (Ab ?_))))
 obtain rfl := so H
 refine Aw (Ret.mk rfl ?_)
 exact ⟨rfl, u⟩}
 {
 intro x a6 a7 hJ
 obtain rfl := so H
 obtain ⟨rfl, hr⟩ := hJ
 exact hr}}

theorem Gj {n : Nat} {h : (List Ee)} {c : ByteArray} {d : A} {R : List Res} {σ : St} (l : Sl rTClass d h) (hp : Hp σ R) {r : (PR Int Int)} (H : Fc n h c = some r) : CaO cfg 158 [d, (vS c), (.fn (.func 116) [] [])] σ (gisadl_place_158_116_post R r) := by
 unfold Fc at H
 refine CaO.enterL (G := [(0, d), (1, (vS c)), (2, (.fn (.func 116) [] []))]) Tryz.func158 rfl rfl rfl rfl (Ac (Aa (Cb hp rfl rfl rfl rfl rfl rfl rfl ?_)))
 intro v q i
 refine Cb i rfl rfl rfl rfl rfl rfl rfl ?_
 intro w s j
 refine V rfl (Ab (Ac (Aa (V rfl (V rfl ?_)))))
 obtain ⟨x, e, H⟩ := bind_some H
 refine A2 rfl rfl rfl rfl (gslices_IndexFunc_184_186_116_ok l j e) ?_
 rintro _ m ⟨rfl, a⟩
 refine V rfl (Ab (Ac (Aa (V rfl (V rfl ?_)))))
 obtain ⟨k, b, H⟩ := bind_some H
 rcases k with t | u
 {
 refine Ai (Ah a b) rfl rfl rfl rfl ?_
 rintro _ o ⟨rfl, f⟩
 refine Ab (Ac (Aa (V rfl (V rfl (Ab ?_)))))
 obtain rfl := so H
 refine Aw (Fin.mk rfl ?_)
 exact ⟨rfl, (Hp.pick f 2 [] rfl)⟩}
 {
 refine Aj (Ah a b) rfl rfl ?_
 intro p g
 obtain rfl := so H
 exact Fin.pan (C := cfg) (fn := Tryz.f158) ⟨rfl, (Hp.pick g 2 [] rfl)⟩}

theorem gr_class_ok {n : Nat} {d : Nat} {c : Nat} {e : Nat} {ab : TRd} {a : ByteArray} {b : ByteArray} {g : (List Da)} {h : (List B5)} {i : (List Ao)} {o : (List Ae)} {j : A} {k : A} {l : A} {p : (List A)} {ac : A} {R : List Res} {σ : St} (bh : Sl rTArg j g) (bi : Sl Hm k h) (bj : Sl Cm l i) (an : E2 (.ptr c 0) ab p) (a1 : Sl A0 ac o) (hp : Hp σ (C0 d p (.blk c (.cells [(vS a), (vS b), j, k, l] 50) :: .blk e (.cells [ac] 167) :: .app j 130 :: .app k 132 :: .app l 52 :: R))) {r : (PR (Int × (List Ae)) Int)} (H : gr_class n ab a b g h i o = some r) : CaO cfg 122 [(.ptr d 0), (.ptr e 0)] σ (gr_class_post d c e a b j k l p R r) := by
 unfold gr_class at H
 refine CaO.enterL (G := [(0, (.ptr d 0)), (1, (.ptr e 0))]) Tryz.func122 rfl rfl rfl rfl (Ac (Aa (V rfl (Ab (Ac ?_)))))
 obtain ⟨q, y, H⟩ := bind_some H
 refine A4 (J := (fun (v : LR (Int × (List Ae)) (PR (Int × (List Ae)) Int)) (x : X) (φ : Fr) (s : St) => match v with | .out (t, a2) => x = .normal ∧ (∃ (m : A), Sl A0 m a2 ∧ Hp s (C0 d p (.blk c (.cells [(vS a), (vS b), j, k, l] 50) :: .blk e (.cells [m] 167) :: .app j 130 :: .app k 132 :: .app l 52 :: R)) ∧ Fl [(4, (vI t))] φ) | .ret r => FinR cfg Tryz.f122 (gr_class_post d c e a b j k l p R r) x φ s) q) ?_ ?_
 {
 have H := y
 refine C5 (by kernel_rfl) ?_
 iterate 4 refine Az rfl rfl rfl rfl rfl rfl ?_
 obtain ⟨ar, au, av, aw, ax, ay, az, b0, b1, b2, b3, rfl, b4, b5, b6, a3, b7, b8, b9, ba, bb, bc, bd⟩ := an
 refine Az (Ag hp 0 rfl rfl rfl rfl) rfl rfl rfl rfl rfl (Az rfl rfl rfl rfl rfl rfl ?_)
 obtain ⟨ad, u, H⟩ := bind_some H
 rcases ad with a4 | be
 rotate_left
 {
 refine Bn (A1 a1 (Hp.pick hp 14 [13, 0, 1, 2, 3, 4, 5, 6, 7, 8, 9, 10, 11, 12] rfl) u) rfl rfl rfl rfl rfl (by kernel_rfl) ?_
 intro ao a7
 obtain rfl := so H
 exact Bm (C := cfg) (fn := Tryz.f122) ⟨rfl, (Hp.pick a7 16 [] rfl)⟩}
 refine Bk (CaO.val (A1 a1 (Hp.pick hp 14 [13, 0, 1, 2, 3, 4, 5, 6, 7, 8, 9, 10, 11, 12] rfl) u)) rfl rfl rfl rfl rfl (by obtain ⟨ae, af⟩ := a4; rintro _ a8 ⟨a5, rfl, a6, f⟩; exact (Ad rfl (B7 rfl (Ag f 1 rfl rfl rfl rfl) (Ad rfl (Ad rfl (Ad rfl (Ad rfl A6))))))) ?_
 obtain ⟨ae, af⟩ := a4
 rintro _ a8 ⟨a5, rfl, a6, f⟩
 obtain ⟨ag, w, H⟩ := bind_some H
 rcases ag with bf | bg
 rotate_left
 {
 refine Bn (Gj a3 f w) rfl rfl rfl rfl rfl (by kernel_rfl) ?_
 intro ai a9
 obtain rfl := so H
 exact Bm (C := cfg) (fn := Tryz.f122) ⟨rfl, (Hp.pick a9 17 [] rfl)⟩}
 refine Bk (CaO.val (Gj a3 f w)) rfl rfl rfl rfl rfl (fun _ _ _ => (Ad rfl (Bd (by kernel_rfl) (Ad rfl (Ad rfl (Ad rfl (Ad rfl A6))))))) ?_
 rintro _ ap ⟨rfl, aa⟩
 refine A9 rfl rfl rfl rfl rfl (Ar rfl (Ar rfl A8)) (Dh ?_)
 obtain rfl := so H
 exact And.intro rfl ⟨a5, a6, (Hp.pick aa 14 [1, 2, 3, 4, 5, 6, 7, 8, 9, 10, 11, 12, 13, 0] rfl), (fl rfl)⟩}
 {
 rcases q with ⟨t, a2⟩ | aq
 {
 intro x aj ak hJ
 obtain ⟨rfl, m, ah, z, a0⟩ := hJ
 refine Be (F := [(4, (vI t))]) a0 ?_
 obtain rfl := so H
 refine Aw (Fin.mk rfl ?_)
 exact ⟨m, rfl, ah, (Hp.pick z 14 [0, 12, 13, 1, 2, 3, 4, 5, 6, 7, 8, 9, 10, 11] rfl)⟩}
 {
 intro x al am hJ
 obtain rfl := so H
 cases x <;> first | exact hJ | exact hJ.elim}}

theorem Gk {n : Nat} {a : Nat} {b : (List Ae)} {e : A} {R : List Res} {σ : St} (i : Sl A0 e b) (hp : Hp σ (.blk a (.cells [e] 167) :: R)) {r : (PR Unit Int)} (H : gc_end n b = some r) : CaO cfg 87 [(.ptr a 0)] σ (gc_end_post a e R r) := by
 unfold gc_end at H
 refine CaO.enterL (G := [(0, (.ptr a 0))]) Tryz.func87 rfl rfl rfl rfl (Aa (V rfl ?_))
 obtain ⟨q, f, H⟩ := bind_some H
 refine A2 rfl rfl rfl rfl (Hl i hp f) ?_
 rintro _ l ⟨rfl, c⟩
 refine V rfl ?_
 obtain ⟨j, d, H⟩ := bind_some H
 rcases j with m | o
 {
 refine Ai (Ah c d) rfl rfl rfl rfl ?_
 rintro _ p ⟨rfl, h⟩
 refine Ab ?_
 obtain rfl := so H
 refine Fin.mkN (C := cfg) (fn := Tryz.f87) rfl ?_
 exact ⟨rfl, h⟩}
 {
 refine Aj (Ah c d) rfl rfl ?_
 intro k g
 obtain rfl := so H
 exact Fin.pan (C := cfg) (fn := Tryz.f87) ⟨rfl, (Hp.pick g 1 [] rfl)⟩}

theorem gstringslite_HasPrefix_ok {n : Nat} {a : ByteArray} {b : ByteArray} {R : List Res} {σ : St} (hp : Hp σ R) {r : Bool} (H : Fj n a b = some r) : Ca cfg 208 [(vS a), (vS b)] σ (gstringslite_HasPrefix_post R r) := by
 unfold Fj at H
 refine Ca.enterL (G := [(0, (vS a)), (1, (vS b))]) Tryz.func208 rfl rfl rfl rfl (Ac (Aa (V rfl (Ab (Ac ?_)))))
 refine Aa (V rfl (W (Ic rfl rfl rfl rfl rfl Tryz.underlying9) rfl (V rfl (W (Ic rfl rfl rfl rfl rfl Tryz.underlying9) rfl (V rfl ?_)))))
 refine V rfl ?_
 obtain ⟨c, e, H⟩ := bind_some H
 refine H1 7 (J := (fun (c : Bool) (x : X) (φ : Fr) (s : St) => x = .normal ∧ (Hp s R ∧ Fl [(4, (vB false)), (17, (vB c))] φ)) c) ?_ ?_
 {
 have H := e
 cases d : (decide (((a.size : Nat) : Int) ≥ ((b.size : Nat) : Int)))
 {
 have H := Av d H
 iterate 6 refine Co rfl rfl rfl ?_
 refine V rfl (Ab ?_)
 obtain rfl := so H
 exact And.intro rfl ⟨hp, (fl rfl)⟩}
 {
 have H := Au d H
 refine V rfl (V rfl (W (Ic rfl rfl rfl rfl rfl Tryz.underlying9) rfl ?_))
 obtain ⟨k, f, H⟩ := bind_some H
 refine W (op_partS f rfl rfl Tryz.underlying9 (.inl ⟨rfl, rfl⟩) (.inr ⟨_, _, rfl, rfl⟩)) rfl (V rfl (W (B9 rfl (Bi _ _)) rfl (V rfl (Ab ?_))))
 obtain rfl := so H
 exact And.intro rfl ⟨hp, (fl rfl)⟩}}
 {
 intro x i j hJ
 obtain ⟨rfl, g, h⟩ := hJ
 refine ⟨rfl, Eo.of (F := [(4, (vB false)), (17, (vB c))]) h ?_⟩
 refine V rfl (Ab ?_)
 obtain rfl := so H
 refine Aw (Ret.mk rfl ?_)
 exact ⟨rfl, g⟩}

theorem gstringslite_CutPrefix_ok {n : Nat} {c : ByteArray} {d : ByteArray} {R : List Res} {σ : St} (hp : Hp σ R) {r : (ByteArray × Bool)} (H : Gt n c d = some r) : Ca cfg 187 [(vS c), (vS d)] σ (gstringslite_CutPrefix_post R r) := by
 unfold Gt at H
 refine Ca.enterL (G := [(0, (vS c)), (1, (vS d))]) Tryz.func187 rfl rfl rfl rfl (Ac (Aa (V rfl (V rfl (Ab ?_)))))
 refine Ac (Ac (Aa (V rfl (V rfl ?_))))
 obtain ⟨g, e, H⟩ := bind_some H
 refine A2 rfl rfl rfl rfl (gstringslite_HasPrefix_ok hp e) ?_
 rintro _ h ⟨rfl, b⟩
 refine V rfl (Ab ?_)
 refine An (t := (!g)) rfl (fun a => ?_) (fun a => ?_)
 {
 have H := Au a H
 refine Ac (Aa ?_)
 iterate 3 refine V rfl ?_
 refine Ab ?_
 obtain rfl := so H
 refine Aw (Ret.mk rfl ?_)
 exact ⟨rfl, b⟩}
 {
 have H := Av a H
 refine A7 (Ac (Aa (V rfl (V rfl (W (Ic rfl rfl rfl rfl rfl Tryz.underlying9) rfl ?_)))))
 obtain ⟨i, f, H⟩ := bind_some H
 refine W (op_partS f rfl rfl Tryz.underlying9 (.inr ⟨_, _, rfl, rfl⟩) (.inl ⟨rfl, rfl⟩)) rfl (V rfl (V rfl (Ab ?_)))
 obtain rfl := so H
 refine Aw (Ret.mk rfl ?_)
 exact ⟨rfl, b⟩}

theorem gstrings_CutPrefix_ok {n : Nat} {a : ByteArray} {b : ByteArray} {R : List Res} {σ : St} (hp : Hp σ R) {r : (ByteArray × Bool)} (H : He n a b = some r) : Ca cfg 159 [(vS a), (vS b)] σ (gstrings_CutPrefix_post R r) := by
 unfold He at H
 refine Ca.enterL (G := [(0, (vS a)), (1, (vS b))]) Tryz.func159 rfl rfl rfl rfl (Ac (Aa (V rfl (V rfl (Ab ?_)))))
 refine Ac (Aa (V rfl (V rfl ?_)))
 obtain ⟨e, c, H⟩ := bind_some H
 refine A2 rfl rfl rfl rfl (gstringslite_CutPrefix_ok hp c) ?_
 obtain ⟨g, h⟩ := e
 rintro _ f ⟨rfl, d⟩
 iterate 4 refine V rfl ?_
 refine Ab ?_
 obtain rfl := so H
 refine Aw (Ret.mk rfl ?_)
 exact ⟨rfl, d⟩

theorem gisadl_place_1_196_121_ok {n : Nat} {b : Nat} {c : Nat} {e : Da} {a : ByteArray} {R : List Res} {σ : St} (hp : Hp σ (.blk b (.cells [(.fn (.func 121) [] [])] 180) :: .blk c (.cells [(vS a)] 9) :: R)) {r : Bool} (H : Iy n e a = some r) : Ca cfg 196 [(.agg [(vS e.f_Name), (vI e.f_Class)]), (.ptr b 0), (.ptr c 0)] σ (gisadl_place_1_196_121_post b c a R r) := by
 unfold Iy at H
 refine Ca.enterL (G := [(0, (.agg [(vS e.f_Name), (vI e.f_Class)])), (1, (.ptr b 0)), (2, (.ptr c 0))]) Tryz.func196 rfl rfl rfl rfl (Ac (Aa (Cb hp rfl rfl rfl rfl rfl rfl rfl ?_)))
 intro q p d
 refine V rfl (Ab (Ac ?_))
 obtain ⟨f, h, H⟩ := bind_some H
 refine A4 (J := (fun (f : Bool) (x : X) (φ : Fr) (s : St) => x = .normal ∧ (Hp s (.blk b (.cells [(.fn (.func 121) [] [])] 180) :: .blk c (.cells [(vS a)] 9) :: R) ∧ Fl [(4, (vB f))] φ)) f) ?_ ?_
 {
 have H := h
 refine Fw (by kernel_rfl) (Az (Ag d 1 rfl rfl rfl rfl) rfl rfl rfl rfl rfl (Az (Ag d 0 rfl rfl rfl rfl) rfl rfl rfl rfl rfl ?_))
 obtain ⟨t, i, H⟩ := bind_some H
 refine Bk (gisadl_argName_ok d i) rfl rfl rfl rfl rfl (fun _ _ _ => (Bd (by kernel_rfl) (Bd (by kernel_rfl) A6))) ?_
 rintro _ l ⟨rfl, g⟩
 refine A9 (Ag g 2 rfl rfl rfl rfl) rfl rfl rfl rfl (stP_op rfl (Ag d 2 rfl rfl rfl rfl) A8) (A9 (B9 rfl (Bi _ _)) rfl rfl rfl rfl (Ar rfl A8) (A9 rfl rfl rfl rfl rfl (Ar rfl A8) (Dh ?_)))
 obtain rfl := so H
 exact And.intro rfl (And.intro rfl ⟨(Hp.pick g 1 [] rfl), (fl rfl)⟩)}
 {
 intro x m o hJ
 obtain ⟨rfl, j, k⟩ := hJ
 refine Be (F := [(4, (vB f))]) k ?_
 obtain rfl := so H
 refine Aw (Ret.mk rfl ?_)
 exact ⟨rfl, j⟩}

theorem gslices_IndexFunc_185_196_121_ok {n : Nat} {b : Nat} {c : Nat} {d : (List Da)} {a : ByteArray} {j : A} {R : List Res} {σ : St} (y : Sl rTArg j d) (hp : Hp σ (.blk b (.cells [(.fn (.func 121) [] [])] 180) :: .blk c (.cells [(vS a)] 9) :: R)) {r : Int} (H : Dq n d a = some r) : Ca cfg 185 [j, (.fn (.func 196) [] [(.ptr b 0), (.ptr c 0)])] σ (Hf b c a R r) := by
 unfold Dq at H
 refine Ca.enterL (G := [(0, j), (1, (.fn (.func 196) [] [(.ptr b 0), (.ptr c 0)]))]) Tryz.func185 rfl rfl rfl rfl (Ac (Aa (V rfl (Ab (Ac ?_)))))
 refine Ac (Aa (V rfl (W (Cj y rfl rfl rfl rfl rfl Tryz.underlying46) rfl (V rfl (Ab ?_)))))
 refine Bb ?_
 obtain ⟨o, q, H⟩ := bind_some H
 refine A4 (J := _) (D8 (fl rfl) (Cw (f := (fun m (i : Int × Unit) => Bu n d a m i.1)) (G := (fun (i : Int × Unit) => ([(0, j), (1, (.fn (.func 196) [] [(.ptr b 0), (.ptr c 0)])), (7, (vI ((d.length : Nat) : Int))), (8, (vI i.1))] : List (Nat × A)))) (I := (fun (i : Int × Unit) (s : St) => Hp s (.blk b (.cells [(.fn (.func 121) [] [])] 180) :: .blk c (.cells [(vS a)] 9) :: R))) (J := (fun (v : LR Unit Int) (x : X) (φ : Fr) (s : St) => match v with | .out _ => x = (.exit 0) ∧ (Hp s (.blk b (.cells [(.fn (.func 121) [] [])] 180) :: .blk c (.cells [(vS a)] 9) :: R) ∧ Fl [] φ) | .ret r => x = .ret ∧ Ret cfg Tryz.f185 (Hf b c a R r) .ret φ s)) (fun _ => rfl) ?_ n (0, ()) _ o hp q)) ?_
 {
 rintro m ⟨h, _⟩ z v p H ih
 change Bu n d a (m + 1) h = some v at H
 rw [Bu] at H
 change Ec _ _ _ [(0, j), (1, (.fn (.func 196) [] [(.ptr b 0), (.ptr c 0)])), (7, (vI ((d.length : Nat) : Int))), (8, (vI h))] z _
 refine Ac (Aa (V rfl (Ab (Ac ?_))))
 refine An (t := (decide (h < ((d.length : Nat) : Int)))) rfl (fun e => ?_) (fun e => ?_)
 {
 have H := Au e H
 refine A7 (Ac (Bb (Ac (Aa (V rfl ?_)))))
 refine V rfl (Ab (Ac (Aa ?_)))
 iterate 3 refine V rfl ?_
 obtain ⟨a7, hvx23, H⟩ := bind_some H
 refine F8 y hvx23 rfl rfl rfl Tryz.underlying46 rfl rfl rfl rfl ?_
 rintro a1 a8 _ hat26 rfl
 refine W (Eb hat26 0 rfl rfl rfl rfl rfl rfl) rfl ?_
 obtain ⟨a0, l, H⟩ := bind_some H
 refine A2 rfl rfl rfl rfl (gisadl_place_1_196_121_ok p l) ?_
 rintro _ a2 ⟨rfl, k⟩
 refine Ab ?_
 refine An (t := a0) rfl (fun g => ?_) (fun g => ?_)
 {
 have H := Au g H
 refine Ac (Aa (V rfl (V rfl (Ab ?_))))
 obtain rfl := so H
 refine Aw ?_
 refine And.intro rfl (Ret.mk rfl ?_)
 exact ⟨rfl, k⟩}
 {
 have H := Av g H
 refine A7 (Aa (V rfl (V rfl (Ab ?_))))
 exact Be (fl rfl) (ih ((IntKind.wrap .i64 (h + 1)), ()) _ k H)}}
 {
 have H := Av e H
 refine D9 ?_
 obtain rfl := so H
 exact And.intro rfl ⟨p, (.nil')⟩}}
 {
 rcases o with _ | a9
 {
 intro x a3 a4 hJ
 obtain ⟨rfl, u, w⟩ := hJ
 refine Be (F := []) w (Ac (Aa (V rfl (Ab ?_))))
 obtain rfl := so H
 refine Aw (Ret.mk rfl ?_)
 exact ⟨rfl, u⟩}
 {
 intro x a5 a6 hJ
 obtain rfl := so H
 obtain ⟨rfl, hr⟩ := hJ
 exact hr}}

theorem Eg {n : Nat} {h : (List Da)} {c : ByteArray} {d : A} {R : List Res} {σ : St} (l : Sl rTArg d h) (hp : Hp σ R) {r : (PR Int Int)} (H : El n h c = some r) : CaO cfg 162 [d, (vS c), (.fn (.func 121) [] [])] σ (gisadl_place_162_121_post R r) := by
 unfold El at H
 refine CaO.enterL (G := [(0, d), (1, (vS c)), (2, (.fn (.func 121) [] []))]) Tryz.func162 rfl rfl rfl rfl (Ac (Aa (Cb hp rfl rfl rfl rfl rfl rfl rfl ?_)))
 intro v q i
 refine Cb i rfl rfl rfl rfl rfl rfl rfl ?_
 intro w s j
 refine V rfl (Ab (Ac (Aa (V rfl (V rfl ?_)))))
 obtain ⟨x, e, H⟩ := bind_some H
 refine A2 rfl rfl rfl rfl (gslices_IndexFunc_185_196_121_ok l j e) ?_
 rintro _ m ⟨rfl, a⟩
 refine V rfl (Ab (Ac (Aa (V rfl (V rfl ?_)))))
 obtain ⟨k, b, H⟩ := bind_some H
 rcases k with t | u
 {
 refine Ai (Ah a b) rfl rfl rfl rfl ?_
 rintro _ o ⟨rfl, f⟩
 refine Ab (Ac (Aa (V rfl (V rfl (Ab ?_)))))
 obtain rfl := so H
 refine Aw (Fin.mk rfl ?_)
 exact ⟨rfl, (Hp.pick f 2 [] rfl)⟩}
 {
 refine Aj (Ah a b) rfl rfl ?_
 intro p g
 obtain rfl := so H
 exact Fin.pan (C := cfg) (fn := Tryz.f162) ⟨rfl, (Hp.pick g 2 [] rfl)⟩}

theorem gstringslite_HasSuffix_ok {n : Nat} {a : ByteArray} {b : ByteArray} {R : List Res} {σ : St} (hp : Hp σ R) {r : Bool} (H : Fk n a b = some r) : Ca cfg 213 [(vS a), (vS b)] σ (gstringslite_HasSuffix_post R r) := by
 unfold Fk at H
 refine Ca.enterL (G := [(0, (vS a)), (1, (vS b))]) Tryz.func213 rfl rfl rfl rfl (Ac (Aa (V rfl (Ab (Ac ?_)))))
 refine Aa (V rfl (W (Ic rfl rfl rfl rfl rfl Tryz.underlying9) rfl (V rfl (W (Ic rfl rfl rfl rfl rfl Tryz.underlying9) rfl (V rfl ?_)))))
 refine V rfl ?_
 obtain ⟨c, e, H⟩ := bind_some H
 refine H1 10 (J := (fun (c : Bool) (x : X) (φ : Fr) (s : St) => x = .normal ∧ (Hp s R ∧ Fl [(4, (vB false)), (20, (vB c))] φ)) c) ?_ ?_
 {
 have H := e
 cases d : (decide (((a.size : Nat) : Int) ≥ ((b.size : Nat) : Int)))
 {
 have H := Av d H
 iterate 9 refine Co rfl rfl rfl ?_
 refine V rfl (Ab ?_)
 obtain rfl := so H
 exact And.intro rfl ⟨hp, (fl rfl)⟩}
 {
 have H := Au d H
 refine V rfl (V rfl (W (Ic rfl rfl rfl rfl rfl Tryz.underlying9) rfl (V rfl (W (Ic rfl rfl rfl rfl rfl Tryz.underlying9) rfl (V rfl ?_)))))
 obtain ⟨k, f, H⟩ := bind_some H
 refine W (op_partS f rfl rfl Tryz.underlying9 (.inr ⟨_, _, rfl, rfl⟩) (.inl ⟨rfl, rfl⟩)) rfl (V rfl (W (B9 rfl (Bi _ _)) rfl (V rfl (Ab ?_))))
 obtain rfl := so H
 exact And.intro rfl ⟨hp, (fl rfl)⟩}}
 {
 intro x i j hJ
 obtain ⟨rfl, g, h⟩ := hJ
 refine ⟨rfl, Eo.of (F := [(4, (vB false)), (20, (vB c))]) h ?_⟩
 refine V rfl (Ab ?_)
 obtain rfl := so H
 refine Aw (Ret.mk rfl ?_)
 exact ⟨rfl, g⟩}

theorem gstringslite_CutSuffix_ok {n : Nat} {c : ByteArray} {d : ByteArray} {R : List Res} {σ : St} (hp : Hp σ R) {r : (ByteArray × Bool)} (H : Gu n c d = some r) : Ca cfg 197 [(vS c), (vS d)] σ (gstringslite_CutSuffix_post R r) := by
 unfold Gu at H
 refine Ca.enterL (G := [(0, (vS c)), (1, (vS d))]) Tryz.func197 rfl rfl rfl rfl (Ac (Aa (V rfl (V rfl (Ab ?_)))))
 refine Ac (Ac (Aa (V rfl (V rfl ?_))))
 obtain ⟨g, e, H⟩ := bind_some H
 refine A2 rfl rfl rfl rfl (gstringslite_HasSuffix_ok hp e) ?_
 rintro _ h ⟨rfl, b⟩
 refine V rfl (Ab ?_)
 refine An (t := (!g)) rfl (fun a => ?_) (fun a => ?_)
 {
 have H := Au a H
 refine Ac (Aa ?_)
 iterate 3 refine V rfl ?_
 refine Ab ?_
 obtain rfl := so H
 refine Aw (Ret.mk rfl ?_)
 exact ⟨rfl, b⟩}
 {
 have H := Av a H
 refine A7 (Ac (Aa (V rfl (V rfl (W (Ic rfl rfl rfl rfl rfl Tryz.underlying9) rfl ?_)))))
 refine V rfl (W (Ic rfl rfl rfl rfl rfl Tryz.underlying9) rfl (V rfl ?_))
 obtain ⟨i, f, H⟩ := bind_some H
 refine W (op_partS f rfl rfl Tryz.underlying9 (.inl ⟨rfl, rfl⟩) (.inr ⟨_, _, rfl, rfl⟩)) rfl (V rfl (V rfl (Ab ?_)))
 obtain rfl := so H
 refine Aw (Ret.mk rfl ?_)
 exact ⟨rfl, b⟩}

theorem gstrings_CutSuffix_ok {n : Nat} {a : ByteArray} {b : ByteArray} {R : List Res} {σ : St} (hp : Hp σ R) {r : (ByteArray × Bool)} (H : Hg n a b = some r) : Ca cfg 163 [(vS a), (vS b)] σ (gstrings_CutSuffix_post R r) := by
 unfold Hg at H
 refine Ca.enterL (G := [(0, (vS a)), (1, (vS b))]) Tryz.func163 rfl rfl rfl rfl (Ac (Aa (V rfl (V rfl (Ab ?_)))))
 refine Ac (Aa (V rfl (V rfl ?_)))
 obtain ⟨e, c, H⟩ := bind_some H
 refine A2 rfl rfl rfl rfl (gstringslite_CutSuffix_ok hp c) ?_
 obtain ⟨g, h⟩ := e
 rintro _ f ⟨rfl, d⟩
 iterate 4 refine V rfl ?_
 refine Ab ?_
 obtain rfl := so H
 refine Aw (Ret.mk rfl ?_)
 exact ⟨rfl, d⟩

theorem Jz {n : Nat} {a : ByteArray} {R : List Res} {σ : St} (hp : Hp σ R) {r : (PR Int Int)} (H : I7 n a = some r) : CaO cfg 164 [(vS a)] σ (gisadl_digits_post R r) := by
 unfold I7 at H
 refine CaO.enterL (G := [(0, (vS a))]) Tryz.func164 rfl rfl rfl rfl (Ac (Aa (V rfl (Ab (Ac ?_)))))
 refine Aa (V rfl ?_)
 obtain ⟨t, j, H⟩ := bind_some H
 refine A2 rfl rfl rfl rfl (prim104_ok hp j) ?_
 obtain ⟨c, d⟩ := t
 rintro _ a1 ⟨rfl, i⟩
 iterate 5 refine V rfl ?_
 refine Ab (Ac (Aa (V rfl (W (op_eqErr rfl rfl rfl Tryz.underlying94 rfl) rfl (V rfl ?_)))))
 refine Gr 4 [(0, (vS a)), (3, (vI c)), (16, (vB ((!d) && (decide (((a.size : Nat) : Int) ≤ 2)))))] ?_ ?_
 {
 cases a2 : (!d)
 {
 iterate 3 refine Co rfl rfl rfl ?_
 refine V rfl ?_
 exact Ab (nn (fl rfl))}
 {
 refine V rfl (W (Ic rfl rfl rfl rfl rfl Tryz.underlying9) rfl (V rfl (V rfl ?_)))
 exact Ab (nn (fl rfl))}}
 {
 refine V rfl ?_
 refine Gr 3 [(0, (vS a)), (3, (vI c)), (20, (vB (((!d) && (decide (((a.size : Nat) : Int) ≤ 2))) && (decide (c ≥ 0)))))] ?_ ?_
 {
 cases u : ((!d) && (decide (((a.size : Nat) : Int) ≤ 2)))
 {
 refine Co rfl rfl rfl (Co rfl rfl rfl (V rfl ?_))
 exact Ab (nn (fl rfl))}
 {
 iterate 3 refine V rfl ?_
 exact Ab (nn (fl rfl))}}
 {
 refine V rfl ?_
 obtain ⟨b, k, H⟩ := bind_some H
 refine H1 5 (J := (fun (b : Bool) (x : X) (φ : Fr) (s : St) => x = .normal ∧ (Hp s R ∧ Fl [(3, (vI c)), (26, (vB b))] φ)) b) ?_ ?_
 {
 have H := k
 cases e : (((!d) && (decide (((a.size : Nat) : Int) ≤ 2))) && (decide (c ≥ 0)))
 {
 have H := Av e H
 iterate 4 refine Co rfl rfl rfl ?_
 refine V rfl (Ab ?_)
 obtain rfl := so H
 exact And.intro rfl ⟨i, (fl rfl)⟩}
 {
 have H := Au e H
 refine V rfl ?_
 obtain ⟨a3, h, H⟩ := bind_some H
 refine A2 rfl rfl rfl rfl (prim92_ok i h) ?_
 rintro _ v ⟨rfl, l⟩
 refine V rfl (W (B9 rfl (Bi _ _)) rfl (V rfl (Ab ?_)))
 obtain rfl := so H
 exact And.intro rfl ⟨l, (fl rfl)⟩}}
 {
 intro x w y hJ
 obtain ⟨rfl, f, m⟩ := hJ
 refine ⟨rfl, Eo.of (F := [(3, (vI c)), (26, (vB b))]) m ?_⟩
 obtain ⟨q, g, H⟩ := bind_some H
 rcases q with a4 | a5
 {
 refine Ai (Ah f g) rfl rfl rfl rfl ?_
 rintro _ z ⟨rfl, o⟩
 refine Ab (Ac (Aa (V rfl (V rfl (Ab ?_)))))
 obtain rfl := so H
 refine Aw (Fin.mk rfl ?_)
 exact ⟨rfl, o⟩}
 {
 refine Aj (Ah f g) rfl rfl ?_
 intro a0 p
 obtain rfl := so H
 exact Fin.pan (C := cfg) (fn := Tryz.f164) ⟨rfl, p⟩}}}}

end Go.DM
