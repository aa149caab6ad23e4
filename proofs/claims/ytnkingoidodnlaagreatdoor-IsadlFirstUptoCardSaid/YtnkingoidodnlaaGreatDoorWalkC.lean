/- Walks: the calls come to the typed functions, part 2. No condition. -/
import Derived.Test.YtnkingoidodnlaaGreatDoorWalkB
namespace Go.DM
open Go Go.Proofs
set_option maxRecDepth 100000
set_option maxHeartbeats 40000000
theorem gr_piece_ok {n : Nat} {d : Nat} {a : Nat} {aa : TRd} {b : ByteArray} {c : ByteArray} {m : (List Da)} {o : (List B5)} {p : (List Ao)} {be : ByteArray} {f : A} {g : A} {h : A} {ak : (List A)} {R : List Res} {σ : St} (bf : Sl rTArg f m) (dp : Sl Hm g o) (dq : Sl Cm h p) (cg : E2 (.ptr a 0) aa ak) (hp : Hp σ (C0 d ak (.blk a (.cells [(vS b), (vS c), f, g, h] 50) :: .app f 130 :: .app g 132 :: .app h 52 :: R))) {r : (PR B5 Int)} (H : gr_piece n aa b c m o p be = some r) : CaO cfg 123 [(.ptr d 0), (vS be)] σ (gr_piece_post d a b c f g h ak R r) := by
 unfold gr_piece at H
 refine CaO.enterL (G := [(0, (.ptr d 0)), (1, (vS be))]) Tryz.func123 rfl rfl rfl rfl (Ac (Aa (Cs (z := [(vS (ByteArray.mk #[])), (vI 0), (vI 0), (vI 0)]) hp rfl rfl rfl rfl rfl ?_)))
 intro i ch bg
 refine Ab (Ac (Ac (Aa (V rfl ?_))))
 obtain ⟨bu, al, H⟩ := bind_some H
 refine A2 rfl rfl rfl rfl (gstrings_CutPrefix_ok bg al) ?_
 obtain ⟨ab, bv⟩ := bu
 rintro _ ci ⟨rfl, q⟩
 iterate 5 refine V rfl ?_
 refine Ab (Ac (Aa (V rfl (Ab ?_))))
 refine An (t := bv) rfl (fun u => ?_) (fun u => ?_)
 {
 have H := Au u H
 refine Ac (Aa (V rfl (W (B9 rfl (sne_eq _ _)) rfl (V rfl ?_))))
 obtain ⟨y, bh, H⟩ := bind_some H
 refine H1 4 (J := (fun (y : Bool) (x : X) (φ : Fr) (s : St) => x = .normal ∧ (Hp s (.blk i (.cells [(vS (ByteArray.mk #[])), (vI 0), (vI 0), (vI 0)] 132) :: (C0 d ak (.blk a (.cells [(vS b), (vS c), f, g, h] 50) :: .app f 130 :: .app g 132 :: .app h 52 :: R))) ∧ Fl [(4, (.ptr i 0)), (5, (vS ab)), (28, (vB y))] φ)) y) ?_ ?_
 {
 have H := bh
 cases ac : (!decide (ab = (ByteArray.mk #[])))
 {
 have H := Av ac H
 iterate 3 refine Co rfl rfl rfl ?_
 refine V rfl (Ab ?_)
 obtain rfl := so H
 exact And.intro rfl ⟨q, (fl rfl)⟩}
 {
 have H := Au ac H
 refine V rfl ?_
 obtain ⟨d3, am, H⟩ := bind_some H
 refine A2 rfl rfl rfl rfl (prim160_ok q am) ?_
 rintro _ cj ⟨rfl, bi⟩
 refine W (B9 rfl (Bi _ _)) rfl (V rfl (Ab ?_))
 obtain rfl := so H
 exact And.intro rfl ⟨bi, (fl rfl)⟩}}
 {
 intro x ck cl hJ
 obtain ⟨rfl, ad, bj⟩ := hJ
 refine ⟨rfl, Eo.of (F := [(4, (.ptr i 0)), (5, (vS ab)), (28, (vB y))]) bj ?_⟩
 obtain ⟨bw, ae, H⟩ := bind_some H
 rcases bw with d4 | d5
 {
 refine Ai (Ah ad ae) rfl rfl rfl rfl ?_
 rintro _ cm ⟨rfl, bk⟩
 refine Ab (Ac (Aa (V rfl ?_)))
 refine W (Bh (Am rfl rfl rfl rfl rfl (Am rfl rfl rfl rfl rfl Bc)) rfl (Ak rfl rfl (Ak rfl rfl rfl)) Tryz.underlying132 rfl rfl) rfl ?_
 refine Al bk 0 rfl (Af rfl rfl rfl rfl rfl rfl) rfl rfl rfl rfl rfl ?_
 intro cn af
 refine Ab ?_
 obtain rfl := so H
 refine Aw (Fin.mk' (Bf af 0 rfl rfl rfl rfl) ?_)
 exact ⟨rfl, (Hp.pick af 14 [1, 13, 2, 3, 4, 5, 6, 7, 8, 9, 10, 11, 12] rfl)⟩}
 {
 refine Aj (Ah ad ae) rfl rfl ?_
 intro co bl
 obtain rfl := so H
 exact Fin.pan (C := cfg) (fn := Tryz.f123) ⟨rfl, (Hp.pick bl 17 [] rfl)⟩}}}
 {
 have H := Av u H
 refine A7 (Ac (Aa (V rfl ?_)))
 obtain ⟨bx, an, H⟩ := bind_some H
 refine A2 rfl rfl rfl rfl (prim161_ok q an) ?_
 obtain ⟨d6, d7, bz⟩ := bx
 rintro _ cp ⟨rfl, j⟩
 iterate 7 refine V rfl ?_
 refine Ab (Ac (Aa ?_))
 iterate 3 refine V rfl ?_
 obtain ⟨b0, b1, b2, b3, b4, b5, b6, b7, b8, b9, ba, rfl, d8, d9, da, c0, db, dc, dd, de, df, dg, dh⟩ := cg
 refine W (Ag j 1 rfl rfl rfl rfl) rfl (V rfl (V rfl (W (Ag j 13 rfl rfl rfl rfl) rfl (V rfl ?_))))
 obtain ⟨bm, a0, H⟩ := bind_some H
 rcases bm with bb | cq
 {
 refine Ai (Eg bf j a0) rfl rfl rfl rfl ?_
 rintro _ cr ⟨rfl, e⟩
 refine V rfl (Ab (Ac (Ac (Aa (V rfl ?_)))))
 refine V rfl (Ab ?_)
 refine An (t := (!bz)) rfl (fun w => ?_) (fun w => ?_)
 {
 have H := Au w H
 refine Ac ?_
 obtain ⟨ag, ao, H⟩ := bind_some H
 refine A4 (J := (fun (v : (Int × Int)) (x : X) (φ : Fr) (s : St) => match v with | (bc, bd) => x = .normal ∧ (Hp s (.blk i (.cells [(vS (ByteArray.mk #[])), (vI bc), (vI bd), (vI 0)] 132) :: (C0 d [(vS aa.f_Desc.f_Name), (vI aa.f_Desc.f_Order), b0, b1, b2, b3, b4, b5, b6, b7, b8, b9, ba, (.ptr a 0)] (.blk a (.cells [(vS b), (vS c), f, g, h] 50) :: .app f 130 :: .app g 132 :: .app h 52 :: R))) ∧ Fl [(4, (.ptr i 0))] φ)) ag) ?_ ?_
 {
 have H := ao
 refine Fv (by kernel_rfl) ?_
 iterate 5 refine V rfl ?_
 refine W (Ag e 1 rfl rfl rfl rfl) rfl ?_
 iterate 3 refine V rfl ?_
 refine W (Ag e 1 rfl rfl rfl rfl) rfl (V rfl (V rfl (W (Ag e 13 rfl rfl rfl rfl) rfl (V rfl ?_))))
 obtain ⟨di, hvx89, H⟩ := bind_some H
 refine F8 bf hvx89 rfl rfl rfl Tryz.underlying46 rfl rfl rfl rfl ?_
 rintro cs dj _ hat92 rfl
 refine V rfl (W (Hx hat92 1 rfl rfl rfl rfl rfl) rfl ?_)
 obtain ⟨dk, hvx93, H⟩ := bind_some H
 refine F8 c0 hvx93 rfl rfl rfl Tryz.underlying30 rfl rfl rfl rfl ?_
 rintro ct dl _ hat96 ⟨dm, rfl, dn⟩
 refine V rfl (W (Hx hat96 3 rfl rfl rfl rfl rfl) rfl (V rfl ?_))
 refine W (Bh (Am rfl rfl rfl rfl rfl (Am rfl rfl rfl rfl rfl Bc)) rfl (Ak rfl rfl (Ak rfl rfl rfl)) Tryz.underlying132 rfl rfl) rfl ?_
 refine Al e 0 rfl (Af rfl rfl rfl rfl rfl rfl) rfl rfl rfl rfl rfl ?_
 intro c1 bn
 refine Ab ?_
 obtain rfl := so H
 exact And.intro rfl (And.intro rfl ⟨bn, (fl rfl)⟩)}
 {
 intro x c2 c3 hJ
 obtain ⟨bc, bd⟩ := ag
 obtain ⟨rfl, a1, ap⟩ := hJ
 refine Be (F := [(4, (.ptr i 0))]) ap ?_
 obtain rfl := so H
 refine Aw (Fin.mk' (Bf a1 0 rfl rfl rfl rfl) ?_)
 exact ⟨rfl, (Hp.pick a1 14 [1, 13, 2, 3, 4, 5, 6, 7, 8, 9, 10, 11, 12] rfl)⟩}}
 {
 have H := Av w H
 refine A7 (Ac (Aa (V rfl ?_)))
 obtain ⟨bo, ah, H⟩ := bind_some H
 refine A2 rfl rfl rfl rfl (gstrings_CutSuffix_ok e ah) ?_
 obtain ⟨cu, cv⟩ := bo
 rintro _ c4 ⟨rfl, a2⟩
 iterate 5 refine V rfl ?_
 refine Ab (Ac (Aa (V rfl ?_)))
 obtain ⟨bp, a3, H⟩ := bind_some H
 rcases bp with cw | cx
 {
 refine Ai (Ah a2 a3) rfl rfl rfl rfl ?_
 rintro _ c5 ⟨rfl, aq⟩
 refine Ab (Ac (Aa (V rfl ?_)))
 obtain ⟨bq, ai, H⟩ := bind_some H
 refine A2 rfl rfl rfl rfl (prim161_ok aq ai) ?_
 obtain ⟨aj, cy, br⟩ := bq
 rintro _ c6 ⟨rfl, a4⟩
 iterate 7 refine V rfl ?_
 refine Ab (Ac (Ac (Aa (V rfl (V rfl ?_)))))
 refine Ab ?_
 obtain ⟨k, ar, H⟩ := bind_some H
 refine A4 (J := (fun (k : ByteArray) (x : X) (φ : Fr) (s : St) => x = .normal ∧ (Hp s (.blk i (.cells [(vS (ByteArray.mk #[])), (vI 0), (vI 0), (vI 0)] 132) :: (C0 d [(vS aa.f_Desc.f_Name), (vI aa.f_Desc.f_Order), b0, b1, b2, b3, b4, b5, b6, b7, b8, b9, ba, (.ptr a 0)] (.blk a (.cells [(vS b), (vS c), f, g, h] 50) :: .app f 130 :: .app g 132 :: .app h 52 :: R))) ∧ Fl [(4, (.ptr i 0)), (10, (vI bb)), (12, (vS aj)), (13, (vS k))] φ)) k) ?_ ?_
 {
 have H := ar
 refine An (t := (!br)) rfl (fun l => ?_) (fun l => ?_)
 {
 have H := Au l H
 refine Aa (V rfl (V rfl (Ab ?_)))
 obtain rfl := so H
 exact And.intro rfl ⟨a4, (fl rfl)⟩}
 {
 have H := Av l H
 refine A7 ?_
 obtain rfl := so H
 exact And.intro rfl ⟨a4, (fl rfl)⟩}}
 {
 intro x c7 c8 hJ
 obtain ⟨rfl, a5, au⟩ := hJ
 refine Be (F := [(4, (.ptr i 0)), (10, (vI bb)), (12, (vS aj)), (13, (vS k))]) au (Ac (Aa (V rfl ?_)))
 obtain ⟨bs, a6, H⟩ := bind_some H
 rcases bs with cz | d0
 {
 refine Ai (Jz a5 a6) rfl rfl rfl rfl ?_
 rintro _ c9 ⟨rfl, a7⟩
 refine V rfl (Ab (Ac (Aa ?_)))
 iterate 3 refine V rfl ?_
 obtain ⟨bt, a8, H⟩ := bind_some H
 rcases bt with d1 | d2
 {
 refine Ai (Jz a7 a8) rfl rfl rfl rfl ?_
 rintro _ ca ⟨rfl, av⟩
 refine W (Bh (Am rfl rfl rfl rfl rfl (Am rfl rfl rfl rfl rfl (Am rfl rfl rfl rfl rfl Bc))) rfl (Ak rfl rfl (Ak rfl rfl (Ak rfl rfl rfl))) Tryz.underlying132 rfl rfl) rfl ?_
 refine Al av 0 rfl (Af rfl rfl rfl rfl rfl rfl) rfl rfl rfl rfl rfl ?_
 intro cb a9
 refine Ab ?_
 obtain rfl := so H
 refine Aw (Fin.mk' (Bf a9 0 rfl rfl rfl rfl) ?_)
 exact ⟨rfl, (Hp.pick a9 14 [1, 13, 2, 3, 4, 5, 6, 7, 8, 9, 10, 11, 12] rfl)⟩}
 {
 refine Aj (Jz a7 a8) rfl rfl ?_
 intro cc aw
 obtain rfl := so H
 exact Fin.pan (C := cfg) (fn := Tryz.f123) ⟨rfl, (Hp.pick aw 17 [] rfl)⟩}}
 {
 refine Aj (Jz a5 a6) rfl rfl ?_
 intro cd ax
 obtain rfl := so H
 exact Fin.pan (C := cfg) (fn := Tryz.f123) ⟨rfl, (Hp.pick ax 17 [] rfl)⟩}}}
 {
 refine Aj (Ah a2 a3) rfl rfl ?_
 intro ce ay
 obtain rfl := so H
 exact Fin.pan (C := cfg) (fn := Tryz.f123) ⟨rfl, (Hp.pick ay 17 [] rfl)⟩}}}
 {
 refine Aj (Eg bf j a0) rfl rfl ?_
 intro cf az
 obtain rfl := so H
 exact Fin.pan (C := cfg) (fn := Tryz.f123) ⟨rfl, (Hp.pick az 17 [] rfl)⟩}}

theorem gisadl_place_1_214_75_ok {n : Nat} {b : Nat} {c : Nat} {f : ByteArray} {a : ByteArray} {R : List Res} {σ : St} (hp : Hp σ (.blk b (.cells [(.fn (.func 75) [] [])] 147) :: .blk c (.cells [(vS a)] 9) :: R)) {r : Bool} (H : Jb n f a = some r) : Ca cfg 214 [(vS f), (.ptr b 0), (.ptr c 0)] σ (gisadl_place_1_214_75_post b c a R r) := by
 unfold Jb at H
 refine Ca.enterL (G := [(0, (vS f)), (1, (.ptr b 0)), (2, (.ptr c 0))]) Tryz.func214 rfl rfl rfl rfl (Ac (Aa (V rfl (Ab (Ac ?_)))))
 obtain ⟨d, g, H⟩ := bind_some H
 refine A4 (J := (fun (d : Bool) (x : X) (φ : Fr) (s : St) => x = .normal ∧ (Hp s (.blk b (.cells [(.fn (.func 75) [] [])] 147) :: .blk c (.cells [(vS a)] 9) :: R) ∧ Fl [(4, (vB d))] φ)) d) ?_ ?_
 {
 have H := g
 refine Fw (by kernel_rfl) (Az (Ag hp 0 rfl rfl rfl rfl) rfl rfl rfl rfl rfl (Az rfl rfl rfl rfl rfl rfl ?_))
 obtain ⟨o, h, H⟩ := bind_some H
 refine Bk (gisadl_flagName_ok hp h) rfl rfl rfl rfl rfl (fun _ _ _ => (Ad rfl (Bd (by kernel_rfl) A6))) ?_
 rintro _ l ⟨rfl, e⟩
 refine A9 (Ag e 1 rfl rfl rfl rfl) rfl rfl rfl rfl (stP_op rfl (Ag hp 1 rfl rfl rfl rfl) A8) (A9 (B9 rfl (Bi _ _)) rfl rfl rfl rfl (Ar rfl A8) (A9 rfl rfl rfl rfl rfl (Ar rfl A8) (Dh ?_)))
 obtain rfl := so H
 exact And.intro rfl (And.intro rfl ⟨e, (fl rfl)⟩)}
 {
 intro x k m hJ
 obtain ⟨rfl, j, i⟩ := hJ
 refine Be (F := [(4, (vB d))]) i ?_
 obtain rfl := so H
 refine Aw (Ret.mk rfl ?_)
 exact ⟨rfl, j⟩}

theorem gslices_IndexFunc_151_214_75_ok {n : Nat} {b : Nat} {c : Nat} {d : (List ByteArray)} {a : ByteArray} {j : A} {R : List Res} {σ : St} (y : Sl rS j d) (hp : Hp σ (.blk b (.cells [(.fn (.func 75) [] [])] 147) :: .blk c (.cells [(vS a)] 9) :: R)) {r : Int} (H : Dz n d a = some r) : Ca cfg 151 [j, (.fn (.func 214) [] [(.ptr b 0), (.ptr c 0)])] σ (Hs b c a R r) := by
 unfold Dz at H
 refine Ca.enterL (G := [(0, j), (1, (.fn (.func 214) [] [(.ptr b 0), (.ptr c 0)]))]) Tryz.func151 rfl rfl rfl rfl (Ac (Aa (V rfl (Ab (Ac ?_)))))
 refine Ac (Aa (V rfl (W (Cj y rfl rfl rfl rfl rfl Tryz.underlying29) rfl (V rfl (Ab ?_)))))
 refine Bb ?_
 obtain ⟨o, q, H⟩ := bind_some H
 refine A4 (J := _) (D8 (fl rfl) (Cw (f := (fun m (i : Int × Unit) => B1 n d a m i.1)) (G := (fun (i : Int × Unit) => ([(0, j), (1, (.fn (.func 214) [] [(.ptr b 0), (.ptr c 0)])), (7, (vI ((d.length : Nat) : Int))), (8, (vI i.1))] : List (Nat × A)))) (I := (fun (i : Int × Unit) (s : St) => Hp s (.blk b (.cells [(.fn (.func 75) [] [])] 147) :: .blk c (.cells [(vS a)] 9) :: R))) (J := (fun (v : LR Unit Int) (x : X) (φ : Fr) (s : St) => match v with | .out _ => x = (.exit 0) ∧ (Hp s (.blk b (.cells [(.fn (.func 75) [] [])] 147) :: .blk c (.cells [(vS a)] 9) :: R) ∧ Fl [] φ) | .ret r => x = .ret ∧ Ret cfg Tryz.f151 (Hs b c a R r) .ret φ s)) (fun _ => rfl) ?_ n (0, ()) _ o hp q)) ?_
 {
 rintro m ⟨h, _⟩ z v p H ih
 change B1 n d a (m + 1) h = some v at H
 rw [B1] at H
 change Ec _ _ _ [(0, j), (1, (.fn (.func 214) [] [(.ptr b 0), (.ptr c 0)])), (7, (vI ((d.length : Nat) : Int))), (8, (vI h))] z _
 refine Ac (Aa (V rfl (Ab (Ac ?_))))
 refine An (t := (decide (h < ((d.length : Nat) : Int)))) rfl (fun e => ?_) (fun e => ?_)
 {
 have H := Au e H
 refine A7 (Ac (Bb (Ac (Aa (V rfl ?_)))))
 refine V rfl (Ab (Ac (Aa ?_)))
 iterate 3 refine V rfl ?_
 obtain ⟨a7, hvx23, H⟩ := bind_some H
 refine F8 y hvx23 rfl rfl rfl Tryz.underlying29 rfl rfl rfl rfl ?_
 rintro a1 a8 _ hat26 rfl
 refine W (Hx hat26 0 rfl rfl rfl rfl rfl) rfl ?_
 obtain ⟨a0, l, H⟩ := bind_some H
 refine A2 rfl rfl rfl rfl (gisadl_place_1_214_75_ok p l) ?_
 rintro _ a2 ⟨rfl, k⟩
 refine Ab ?_
 refine An (t := a0) rfl (fun g => ?_) (fun g => ?_)
 {
 have H := Au g H
 refine Ac (Aa (V rfl (V rfl (Ab ?_))))
 obtain rfl := so H
 refine Aw ?_
 refine And.intro rfl (Ret.mk rfl ?_)
 exact ⟨rfl, k⟩}
 {
 have H := Av g H
 refine A7 (Aa (V rfl (V rfl (Ab ?_))))
 exact Be (fl rfl) (ih ((IntKind.wrap .i64 (h + 1)), ()) _ k H)}}
 {
 have H := Av e H
 refine D9 ?_
 obtain rfl := so H
 exact And.intro rfl ⟨p, (.nil')⟩}}
 {
 rcases o with _ | a9
 {
 intro x a3 a4 hJ
 obtain ⟨rfl, u, w⟩ := hJ
 refine Be (F := []) w (Ac (Aa (V rfl (Ab ?_))))
 obtain rfl := so H
 refine Aw (Ret.mk rfl ?_)
 exact ⟨rfl, u⟩}
 {
 intro x a5 a6 hJ
 obtain rfl := so H
 obtain ⟨rfl, hr⟩ := hJ
 exact hr}}

theorem gisadl_place_198_75_ok {n : Nat} {h : (List ByteArray)} {c : ByteArray} {d : A} {R : List Res} {σ : St} (l : Sl rS d h) (hp : Hp σ R) {r : (PR Int Int)} (H : Gp n h c = some r) : CaO cfg 198 [d, (vS c), (.fn (.func 75) [] [])] σ (gisadl_place_198_75_post R r) := by
 unfold Gp at H
 refine CaO.enterL (G := [(0, d), (1, (vS c)), (2, (.fn (.func 75) [] []))]) Tryz.func198 rfl rfl rfl rfl (Ac (Aa (Cb hp rfl rfl rfl rfl rfl rfl rfl ?_)))
 intro v q i
 refine Cb i rfl rfl rfl rfl rfl rfl rfl ?_
 intro w s j
 refine V rfl (Ab (Ac (Aa (V rfl (V rfl ?_)))))
 obtain ⟨x, e, H⟩ := bind_some H
 refine A2 rfl rfl rfl rfl (gslices_IndexFunc_151_214_75_ok l j e) ?_
 rintro _ m ⟨rfl, a⟩
 refine V rfl (Ab (Ac (Aa (V rfl (V rfl ?_)))))
 obtain ⟨k, b, H⟩ := bind_some H
 rcases k with t | u
 {
 refine Ai (Ah a b) rfl rfl rfl rfl ?_
 rintro _ o ⟨rfl, f⟩
 refine Ab (Ac (Aa (V rfl (V rfl (Ab ?_)))))
 obtain rfl := so H
 refine Aw (Fin.mk rfl ?_)
 exact ⟨rfl, (Hp.pick f 2 [] rfl)⟩}
 {
 refine Aj (Ah a b) rfl rfl ?_
 intro p g
 obtain rfl := so H
 exact Fin.pan (C := cfg) (fn := Tryz.f198) ⟨rfl, (Hp.pick g 2 [] rfl)⟩}

theorem gr_flag_ok {n : Nat} {d : Nat} {c : Nat} {e : Nat} {ab : TRd} {a : ByteArray} {b : ByteArray} {g : (List Da)} {h : (List B5)} {i : (List Ao)} {o : (List Ae)} {j : A} {k : A} {l : A} {p : (List A)} {ac : A} {R : List Res} {σ : St} (bh : Sl rTArg j g) (bi : Sl Hm k h) (bj : Sl Cm l i) (an : E2 (.ptr c 0) ab p) (a1 : Sl A0 ac o) (hp : Hp σ (C0 d p (.blk c (.cells [(vS a), (vS b), j, k, l] 50) :: .blk e (.cells [ac] 167) :: .app j 130 :: .app k 132 :: .app l 52 :: R))) {r : (PR (Int × (List Ae)) Int)} (H : gr_flag n ab a b g h i o = some r) : CaO cfg 165 [(.ptr d 0), (.ptr e 0)] σ (gr_flag_post d c e a b j k l p R r) := by
 unfold gr_flag at H
 refine CaO.enterL (G := [(0, (.ptr d 0)), (1, (.ptr e 0))]) Tryz.func165 rfl rfl rfl rfl (Ac (Aa (V rfl (Ab (Ac ?_)))))
 obtain ⟨q, y, H⟩ := bind_some H
 refine A4 (J := (fun (v : LR (Int × (List Ae)) (PR (Int × (List Ae)) Int)) (x : X) (φ : Fr) (s : St) => match v with | .out (t, a2) => x = .normal ∧ (∃ (m : A), Sl A0 m a2 ∧ Hp s (C0 d p (.blk c (.cells [(vS a), (vS b), j, k, l] 50) :: .blk e (.cells [m] 167) :: .app j 130 :: .app k 132 :: .app l 52 :: R)) ∧ Fl [(4, (vI t))] φ) | .ret r => FinR cfg Tryz.f165 (gr_flag_post d c e a b j k l p R r) x φ s) q) ?_ ?_
 {
 have H := y
 refine C5 (by kernel_rfl) ?_
 iterate 4 refine Az rfl rfl rfl rfl rfl rfl ?_
 obtain ⟨ar, au, av, aw, ax, ay, az, b0, b1, b2, b3, rfl, b4, b5, a3, b6, b7, b8, b9, ba, bb, bc, bd⟩ := an
 refine Az (Ag hp 0 rfl rfl rfl rfl) rfl rfl rfl rfl rfl (Az rfl rfl rfl rfl rfl rfl ?_)
 obtain ⟨ad, u, H⟩ := bind_some H
 rcases ad with a4 | be
 rotate_left
 {
 refine Bn (A1 a1 (Hp.pick hp 14 [13, 0, 1, 2, 3, 4, 5, 6, 7, 8, 9, 10, 11, 12] rfl) u) rfl rfl rfl rfl rfl (by kernel_rfl) ?_
 intro ao a7
 obtain rfl := so H
 exact Bm (C := cfg) (fn := Tryz.f165) ⟨rfl, (Hp.pick a7 16 [] rfl)⟩}
 refine Bk (CaO.val (A1 a1 (Hp.pick hp 14 [13, 0, 1, 2, 3, 4, 5, 6, 7, 8, 9, 10, 11, 12] rfl) u)) rfl rfl rfl rfl rfl (by obtain ⟨ae, af⟩ := a4; rintro _ a8 ⟨a5, rfl, a6, f⟩; exact (Ad rfl (B7 rfl (Ag f 1 rfl rfl rfl rfl) (Ad rfl (Ad rfl (Ad rfl (Ad rfl A6))))))) ?_
 obtain ⟨ae, af⟩ := a4
 rintro _ a8 ⟨a5, rfl, a6, f⟩
 obtain ⟨ag, w, H⟩ := bind_some H
 rcases ag with bf | bg
 rotate_left
 {
 refine Bn (gisadl_place_198_75_ok a3 f w) rfl rfl rfl rfl rfl (by kernel_rfl) ?_
 intro ai a9
 obtain rfl := so H
 exact Bm (C := cfg) (fn := Tryz.f165) ⟨rfl, (Hp.pick a9 17 [] rfl)⟩}
 refine Bk (CaO.val (gisadl_place_198_75_ok a3 f w)) rfl rfl rfl rfl rfl (fun _ _ _ => (Ad rfl (Bd (by kernel_rfl) (Ad rfl (Ad rfl (Ad rfl (Ad rfl A6))))))) ?_
 rintro _ ap ⟨rfl, aa⟩
 refine A9 rfl rfl rfl rfl rfl (Ar rfl (Ar rfl A8)) (Dh ?_)
 obtain rfl := so H
 exact And.intro rfl ⟨a5, a6, (Hp.pick aa 14 [1, 2, 3, 4, 5, 6, 7, 8, 9, 10, 11, 12, 13, 0] rfl), (fl rfl)⟩}
 {
 rcases q with ⟨t, a2⟩ | aq
 {
 intro x aj ak hJ
 obtain ⟨rfl, m, ah, z, a0⟩ := hJ
 refine Be (F := [(4, (vI t))]) a0 ?_
 obtain rfl := so H
 refine Aw (Fin.mk rfl ?_)
 exact ⟨m, rfl, ah, (Hp.pick z 14 [0, 12, 13, 1, 2, 3, 4, 5, 6, 7, 8, 9, 10, 11] rfl)⟩}
 {
 intro x al am hJ
 obtain rfl := so H
 cases x <;> first | exact hJ | exact hJ.elim}}

theorem gr_register_ok {n : Nat} {e : Nat} {d : Nat} {c : Nat} {bl : TRd} {a : ByteArray} {b : ByteArray} {u : (List Da)} {w : (List B5)} {y : (List Ao)} {ab : Int} {ac : Int} {ad : (List Ae)} {j : A} {k : A} {l : A} {a0 : (List A)} {b6 : A} {R : List Res} {σ : St} (bm : Sl rTArg j u) (df : Sl Hm k w) (dg : Sl Cm l y) (c7 : E2 (.ptr d 0) bl a0) (m : Sl A0 b6 ad) (hp : Hp σ (C0 e a0 (.blk d (.cells [(vS a), (vS b), j, k, l] 50) :: .blk c (.cells [b6] 167) :: .app j 130 :: .app k 132 :: .app l 52 :: R))) {r : (PR (Ao × (List Ae)) Int)} (H : gr_register n bl a b u w y ab ac ad = some r) : CaO cfg 166 [(.ptr e 0), (vI ab), (vI ac), (.ptr c 0)] σ (gr_register_post e d c a b j k l a0 R r) := by
 unfold gr_register at H
 refine CaO.enterL (G := [(0, (.ptr e 0)), (1, (vI ab)), (2, (vI ac)), (3, (.ptr c 0))]) Tryz.func166 rfl rfl rfl rfl (Ac (Aa (Cs (z := [(vI 0), (vI 0), (vI 0), (vI 0), A5]) hp rfl rfl rfl rfl rfl ?_)))
 intro f c8 b7
 refine Ab (Ac (Aa (V rfl (V rfl ?_))))
 refine W (Bh (Am rfl rfl rfl rfl rfl (Am rfl rfl rfl rfl rfl Bc)) rfl (Ak rfl rfl (Ak rfl rfl rfl)) Tryz.underlying52 rfl rfl) rfl ?_
 refine Cs (z := [(vI 0), (vI 0), (vI 0), (vI 0), A5]) b7 rfl rfl rfl rfl rfl ?_
 intro g c9 b8
 refine Al b8 0 rfl (Af rfl rfl rfl rfl rfl rfl) rfl rfl rfl rfl rfl ?_
 intro ca b9
 refine Ab (Ac (Ac (Aa (V rfl ?_))))
 obtain ⟨bn, ao, H⟩ := bind_some H
 refine A2 rfl rfl rfl rfl (Hl m (Hp.pick b9 16 [15, 0, 1, 2, 3, 4, 5, 6, 7, 8, 9, 10, 11, 12, 13, 14] rfl) ao) ?_
 rintro _ cb ⟨rfl, a2⟩
 refine V rfl ?_
 obtain ⟨a1, ap, H⟩ := bind_some H
 refine H1 9 (J := (fun (a1 : Bool) (x : X) (φ : Fr) (s : St) => x = .normal ∧ (Hp s (C0 e a0 (.blk d (.cells [(vS a), (vS b), j, k, l] 50) :: .blk c (.cells [b6] 167) :: .blk f (.cells [(vI 0), (vI 0), (vI 0), (vI 0), A5] 52) :: .blk g (.cells [(vI ab), (vI 0), (vI ac), (vI 0), A5] 52) :: .app j 130 :: .app k 132 :: .app l 52 :: R)) ∧ Fl [(0, (.ptr e 0)), (3, (.ptr c 0)), (8, (.ptr f 0)), (9, (.ptr g 0)), (24, (vB a1))] φ)) a1) ?_ ?_
 {
 have H := ap
 cases ae : bn
 {
 have H := Av ae H
 iterate 8 refine Co rfl rfl rfl ?_
 refine V rfl (Ab ?_)
 obtain rfl := so H
 exact And.intro rfl ⟨(Hp.pick a2 16 [3, 4, 5, 6, 7, 8, 9, 10, 11, 12, 13, 14, 15, 0, 2, 1] rfl), (fl rfl)⟩}
 {
 have H := Au ae H
 iterate 3 refine V rfl ?_
 refine W (Ag a2 0 rfl rfl rfl rfl) rfl ?_
 obtain ⟨db, hvx36, H⟩ := bind_some H
 refine F8 m hvx36 rfl rfl rfl Tryz.underlying23 rfl rfl rfl rfl ?_
 intro cc dc _ hat39 hr42
 obtain ⟨dd, rfl, de⟩ := rTTree_un hr42
 refine V rfl (W (Hx hat39 0 rfl rfl rfl rfl rfl) rfl (V rfl (V rfl (Ab ?_))))
 obtain rfl := so H
 exact And.intro rfl ⟨(Hp.pick a2 16 [3, 4, 5, 6, 7, 8, 9, 10, 11, 12, 13, 14, 15, 0, 2, 1] rfl), (fl rfl)⟩}}
 {
 intro x cd ce hJ
 obtain ⟨rfl, i, ba⟩ := hJ
 refine ⟨rfl, Eo.of (F := [(0, (.ptr e 0)), (3, (.ptr c 0)), (8, (.ptr f 0)), (9, (.ptr g 0)), (24, (vB a1))]) ba ?_⟩
 refine Ab ?_
 obtain ⟨af, aq, H⟩ := bind_some H
 refine A4 (J := (fun (v : LR ((List Ae) × Int) (PR (Ao × (List Ae)) Int)) (x : X) (φ : Fr) (s : St) => match v with | .out (ag, ah) => x = .normal ∧ (∃ (o : A), Sl A0 o ag ∧ Hp s (.blk c (.cells [o] 167) :: .blk f (.cells [(vI 0), (vI 0), (vI 0), (vI 0), A5] 52) :: .blk g (.cells [(vI ab), (vI 0), (vI ac), (vI ah), A5] 52) :: (C0 e a0 (.blk d (.cells [(vS a), (vS b), j, k, l] 50) :: .app j 130 :: .app k 132 :: .app l 52 :: R))) ∧ Fl [(3, (.ptr c 0)), (8, (.ptr f 0)), (9, (.ptr g 0))] φ) | .ret r => FinR cfg Tryz.f166 (gr_register_post e d c a b j k l a0 R r) x φ s) af) ?_ ?_
 {
 have H := aq
 refine An (t := a1) rfl (fun p => ?_) (fun p => ?_)
 {
 have H := Au p H
 refine Aa (V rfl ?_)
 obtain ⟨bb, a4, H⟩ := bind_some H
 rcases bb with bc | cf
 {
 refine Ai (Bg m (Hp.pick i 14 [13, 0, 1, 2, 3, 4, 5, 6, 7, 8, 9, 10, 11, 12] rfl) a4) rfl rfl rfl rfl ?_
 obtain ⟨cg, ch⟩ := bc
 rintro _ bo ⟨bd, rfl, be, ar⟩
 refine V rfl (V rfl (Al ar 15 rfl (Af rfl rfl rfl rfl rfl rfl) rfl rfl rfl rfl rfl ?_))
 intro bp au
 refine Ab ?_
 obtain rfl := so H
 exact And.intro rfl ⟨bd, be, (Hp.pick au 16 [0, 14, 15, 1, 2, 3, 4, 5, 6, 7, 8, 9, 10, 11, 12, 13] rfl), (fl rfl)⟩}
 {
 refine Aj (Bg m (Hp.pick i 14 [13, 0, 1, 2, 3, 4, 5, 6, 7, 8, 9, 10, 11, 12] rfl) a4) rfl rfl ?_
 intro bq av
 obtain rfl := so H
 exact Fin.pan (C := cfg) (fn := Tryz.f166) ⟨rfl, (Hp.pick av 18 [] rfl)⟩}}
 {
 have H := Av p H
 obtain ⟨ai, aw, H⟩ := bind_some H
 refine A4 (J := (fun (v : LR ((List Ae) × Int) (PR (Ao × (List Ae)) Int)) (x : X) (φ : Fr) (s : St) => match v with | .out (aj, ak) => x = .normal ∧ (∃ (q : A), Sl A0 q aj ∧ Hp s (.blk c (.cells [q] 167) :: .blk f (.cells [(vI 0), (vI 0), (vI 0), (vI 0), A5] 52) :: .blk g (.cells [(vI ab), (vI 0), (vI ac), (vI ak), A5] 52) :: (C0 e a0 (.blk d (.cells [(vS a), (vS b), j, k, l] 50) :: .app j 130 :: .app k 132 :: .app l 52 :: R))) ∧ Fl [(3, (.ptr c 0)), (8, (.ptr f 0)), (9, (.ptr g 0))] φ) | .ret r => FinR cfg Tryz.f166 (gr_register_post e d c a b j k l a0 R r) x φ s) ai) ?_ ?_
 {
 have H := aw
 refine C5 (by kernel_rfl) ?_
 iterate 3 refine Az rfl rfl rfl rfl rfl rfl ?_
 obtain ⟨ci, cj, ck, cl, cm, cn, co, cp, cq, cr, cs, rfl, ct, cu, cv, cw, cx, cy, cz, d0, d1, d2, d3⟩ := c7
 refine Az (Ag i 0 rfl rfl rfl rfl) rfl rfl rfl rfl rfl (Az rfl rfl rfl rfl rfl rfl (Az rfl rfl rfl rfl rfl rfl (Az (Ag i 12 rfl rfl rfl rfl) rfl rfl rfl rfl rfl (Az rfl rfl rfl rfl rfl rfl ?_))))
 obtain ⟨bf, a5, H⟩ := bind_some H
 rcases bf with al | d4
 rotate_left
 {
 refine Bn (A1 m (Hp.pick i 14 [13, 0, 1, 2, 3, 4, 5, 6, 7, 8, 9, 10, 11, 12] rfl) a5) rfl rfl rfl rfl rfl (by kernel_rfl) ?_
 intro br ax
 obtain rfl := so H
 exact Bm (C := cfg) (fn := Tryz.f166) ⟨rfl, (Hp.pick ax 18 [] rfl)⟩}
 refine Bk (CaO.val (A1 m (Hp.pick i 14 [13, 0, 1, 2, 3, 4, 5, 6, 7, 8, 9, 10, 11, 12] rfl) a5)) rfl rfl rfl rfl rfl (by obtain ⟨bg, bh⟩ := al; rintro _ ay ⟨am, rfl, an, h⟩; exact (Ad rfl (B7 rfl (Ag h 13 rfl rfl rfl rfl) (Ad rfl (Ad rfl (B7 rfl (Ag h 1 rfl rfl rfl rfl) (Ad rfl (Ad rfl (Ad rfl A6))))))))) ?_
 obtain ⟨bg, bh⟩ := al
 rintro _ ay ⟨am, rfl, an, h⟩
 obtain ⟨bi, a6, H⟩ := bind_some H
 rcases bi with d5 | d6
 rotate_left
 {
 refine Bn (Eg bm h a6) rfl rfl rfl rfl rfl (by kernel_rfl) ?_
 intro bs az
 obtain rfl := so H
 exact Bm (C := cfg) (fn := Tryz.f166) ⟨rfl, (Hp.pick az 19 [] rfl)⟩}
 refine Bk (CaO.val (Eg bm h a6)) rfl rfl rfl rfl rfl (fun _ _ _ => (Ad rfl (Bd (by kernel_rfl) (Ad rfl (Ad rfl (Bd (by kernel_rfl) (Ad rfl (Ad rfl (Ad rfl A6))))))))) ?_
 rintro _ bt ⟨rfl, b0⟩
 refine A9 rfl rfl rfl rfl rfl (Ar rfl (Ar rfl A8)) (Gm b0 15 rfl (Af rfl rfl rfl rfl rfl rfl) rfl rfl rfl rfl rfl (fun σ' hp' => ((Ad rfl (Ad rfl (Bd (by kernel_rfl) (Ad rfl (Ad rfl (Bd (by kernel_rfl) (Ad rfl (Ad rfl (Ad rfl A6))))))))))) ?_)
 intro bu b1
 refine Dh ?_
 obtain rfl := so H
 exact And.intro rfl ⟨am, an, (Hp.pick b1 16 [0, 14, 15, 1, 2, 3, 4, 5, 6, 7, 8, 9, 10, 11, 12, 13] rfl), (fl rfl)⟩}
 {
 rcases ai with ⟨aj, ak⟩ | d7
 {
 intro x bv bw hJ
 obtain ⟨rfl, q, bj, b2, b3⟩ := hJ
 obtain rfl := so H
 exact And.intro rfl ⟨q, bj, b2, (Fl.trans (G := [(3, (.ptr c 0)), (8, (.ptr f 0)), (9, (.ptr g 0))]) (fl rfl) b3)⟩}
 {
 intro x bx bz hJ
 obtain rfl := so H
 cases x <;> first | exact hJ | exact hJ.elim}}}}
 {
 rcases af with ⟨ag, ah⟩ | d8
 {
 intro x c0 c1 hJ
 obtain ⟨rfl, o, a3, a7, b4⟩ := hJ
 refine Be (F := [(3, (.ptr c 0)), (8, (.ptr f 0)), (9, (.ptr g 0))]) b4 (Ac (Aa (V rfl ?_)))
 obtain ⟨bk, a8, H⟩ := bind_some H
 rcases bk with d9 | da
 {
 refine Ai (Gk a3 a7 a8) rfl rfl rfl rfl ?_
 rintro _ c2 ⟨rfl, a9⟩
 refine Ab (Ac (Aa (W (Ag a9 2 rfl rfl rfl rfl) rfl (Al a9 1 rfl (Af rfl rfl rfl rfl rfl rfl) rfl rfl rfl rfl rfl ?_))))
 intro c3 aa
 refine Ab ?_
 obtain rfl := so H
 refine Aw (Fin.mk' (Bf aa 1 rfl rfl rfl rfl) ?_)
 exact ⟨A5, o, rfl, Sl.nil, a3, (Hp.pick (As aa 52) 17 [4, 16, 1, 0, 5, 6, 7, 8, 9, 10, 11, 12, 13, 14, 15] rfl)⟩}
 {
 refine Aj (Gk a3 a7 a8) rfl rfl ?_
 intro c4 b5
 obtain rfl := so H
 exact Fin.pan (C := cfg) (fn := Tryz.f166) ⟨rfl, (Hp.pick b5 18 [] rfl)⟩}}
 {
 intro x c5 c6 hJ
 obtain rfl := so H
 cases x <;> first | exact hJ | exact hJ.elim}}}

theorem gr_term_ok {n : Nat} {rec167 : TRd → ByteArray → ByteArray → (List Da) → (List B5) → (List Ao) → Ao → (List Ae) → Int → Option (PR (Ao × (List Ae)) Int)} (ih167 : ∀ {k : Nat} {i : Nat} {c2 : Nat} {c3 : TRd} {c : ByteArray} {d : ByteArray} {l : (List Da)} {m : (List B5)} {o : (List Ao)} {j : Ao} {c4 : (List Ae)} {gv : Int} {w : A} {y : A} {a0 : A} {a2 : (List A)} {ad : A} {eu : A} {R : List Res} {σ : St} (e : Sl rTArg w l) (f : Sl Hm y m) (g : Sl Cm a0 o) (h : E2 (.ptr i 0) c3 a2) (am : Sl Cm ad j.f_Kids) (mu : Sl A0 eu c4) (hp : Hp σ (C0 k a2 (.blk i (.cells [(vS c), (vS d), w, y, a0] 50) :: .blk c2 (.cells [eu] 167) :: .app w 130 :: .app y 132 :: .app a0 52 :: .app ad 52 :: R))) {r : (PR (Ao × (List Ae)) Int)} (H : rec167 c3 c d l m o j c4 gv = some r), CaO cfg 167 [(.ptr k 0), (.agg [(vI j.f_Op), (vI j.f_W), (vI j.f_A), (vI j.f_B), ad]), (.ptr c2 0), (vI gv)] σ (J6 k i c2 c d w y a0 a2 R r)) {k : Nat} {i : Nat} {c3 : TRd} {c : ByteArray} {d : ByteArray} {l : (List Da)} {m : (List B5)} {o : (List Ao)} {j : Ae} {w : A} {y : A} {a0 : A} {a2 : (List A)} {ad : A} {R : List Res} {σ : St} (e : Sl rTArg w l) (f : Sl Hm y m) (g : Sl Cm a0 o) (h : E2 (.ptr i 0) c3 a2) (am : Sl A0 ad j.f_Kids) (hp : Hp σ (C0 k a2 (.blk i (.cells [(vS c), (vS d), w, y, a0] 50) :: .app w 130 :: .app y 132 :: .app a0 52 :: R))) {r : (PR Ao Int)} (H : gr_term n rec167 c3 c d l m o j = some r) : CaO cfg 168 [(.ptr k 0), (.agg [(vI j.f_Kind), (vS j.f_Word), (vI j.f_Num), ad])] σ (gr_term_post k i c d w y a0 a2 R r) := by
 unfold gr_term at H
 refine CaO.enterL (G := [(0, (.ptr k 0)), (1, (.agg [(vI j.f_Kind), (vS j.f_Word), (vI j.f_Num), ad]))]) Tryz.func168 rfl rfl rfl rfl (Ac (Aa (Cb hp rfl (by exact on rfl (on rfl (on rfl (on am.isOne on0)))) rfl rfl rfl rfl rfl ?_)))
 intro gw j1 ez
 refine Cs (z := [(vI 0), (vI 0), (vI 0), (vI 0), A5]) ez rfl rfl rfl rfl rfl ?_
 intro an j2 p
 refine Ab (Ac (Ac (Aa (V rfl (W (Ag p 1 rfl rfl rfl rfl) rfl ?_)))))
 refine V rfl (Ab ?_)
 refine An (t := (j.f_Kind == 1)) rfl (fun ae => ?_) (fun ae => ?_)
 {
 have H := Au ae H
 refine Ac (Aa (V rfl (W (Ag p 1 rfl rfl rfl rfl) rfl (W (B9 rfl (Bi _ _)) rfl (V rfl ?_)))))
 refine Gr 4 [(3, (.ptr gw 0)), (4, (.ptr an 0)), (21, (vB ((decide (j.f_Word = (ByteArray.mk #[112, 99]))) || (decide (j.f_Word = (ByteArray.mk #[110, 101, 120, 116]))))))] ?_ ?_
 {
 cases j3 : (decide (j.f_Word = (ByteArray.mk #[112, 99])))
 {
 refine V rfl (W (Ag p 1 rfl rfl rfl rfl) rfl (W (B9 rfl (Bi _ _)) rfl (V rfl ?_)))
 exact Ab (nn (fl rfl))}
 {
 iterate 3 refine Co rfl rfl rfl ?_
 refine V rfl ?_
 exact Ab (nn (fl rfl))}}
 {
 obtain ⟨gx, c5, H⟩ := bind_some H
 rcases gx with mv | mw
 {
 refine Ai (Ah p c5) rfl rfl rfl rfl ?_
 rintro _ j4 ⟨rfl, af⟩
 refine Ab (Ac (Ac (Aa (V rfl (W (Ag af 1 rfl rfl rfl rfl) rfl ?_)))))
 refine W (B9 rfl (Bi _ _)) rfl (Ab ?_)
 refine An (t := (decide (j.f_Word = (ByteArray.mk #[112, 99])))) rfl (fun ag => ?_) (fun ag => ?_)
 {
 have H := Au ag H
 refine Ac (Aa ?_)
 refine W (Bh (Am rfl rfl rfl rfl rfl Bc) rfl (Ak rfl rfl rfl) Tryz.underlying52 rfl rfl) rfl ?_
 refine Al af 0 rfl (Af rfl rfl rfl rfl rfl rfl) rfl rfl rfl rfl rfl ?_
 intro j5 c6
 refine Ab ?_
 obtain rfl := so H
 refine Aw (Fin.mk' (Bf c6 0 rfl rfl rfl rfl) ?_)
 exact ⟨A5, rfl, Sl.nil, (Hp.pick (As c6 52) 16 [3, 15, 0, 4, 5, 6, 7, 8, 9, 10, 11, 12, 13, 14] rfl)⟩}
 {
 have H := Av ag H
 refine A7 (Ac (Aa ?_))
 refine W (Bh (Am rfl rfl rfl rfl rfl Bc) rfl (Ak rfl rfl rfl) Tryz.underlying52 rfl rfl) rfl ?_
 refine Al af 0 rfl (Af rfl rfl rfl rfl rfl rfl) rfl rfl rfl rfl rfl ?_
 intro j6 c7
 refine Ab ?_
 obtain rfl := so H
 refine Aw (Fin.mk' (Bf c7 0 rfl rfl rfl rfl) ?_)
 exact ⟨A5, rfl, Sl.nil, (Hp.pick (As c7 52) 16 [3, 15, 0, 4, 5, 6, 7, 8, 9, 10, 11, 12, 13, 14] rfl)⟩}}
 {
 refine Aj (Ah p c5) rfl rfl ?_
 intro j7 f0
 obtain rfl := so H
 exact Fin.pan (C := cfg) (fn := Tryz.f168) ⟨rfl, (Hp.pick f0 18 [] rfl)⟩}}}
 {
 have H := Av ae H
 refine A7 (Ac (Aa (W (Ag p 1 rfl rfl rfl rfl) rfl ?_)))
 obtain ⟨f1, ao, H⟩ := bind_some H
 rcases f1 with mx | j8
 {
 refine Ai (Bo am p ao) rfl rfl rfl rfl ?_
 rintro _ j9 ⟨a1, my, rfl, ev, c8⟩
 refine V rfl (Ab (Ac (Aa (V rfl ?_))))
 obtain ⟨f2, ap, H⟩ := bind_some H
 rcases f2 with f3 | ja
 {
 refine Ai (A1 ev c8 ap) rfl rfl rfl rfl ?_
 obtain ⟨q, mz⟩ := f3
 rintro _ jb ⟨n0, rfl, b, f4⟩
 refine V rfl (Ab (Ac (Ac (Aa ?_))))
 obtain ⟨n1, dp, H⟩ := bind_some H
 refine A2 rfl rfl rfl rfl (prim106_ok f4 dp) ?_
 rintro n2 jc ⟨_, rfl, gy, f5⟩
 refine V rfl ?_
 obtain ⟨gz, dq, H⟩ := bind_some H
 refine A2 rfl rfl rfl rfl (H4 gy f5 dq) ?_
 rintro _ jd ⟨rfl, a⟩
 refine V rfl (Ab (Ac (Aa (V rfl (V rfl ?_)))))
 refine Ab ?_
 refine An (t := (decide (gz ≥ 0))) rfl (fun ah => ?_) (fun ah => ?_)
 {
 have H := Au ah H
 refine Ac (Aa ?_)
 iterate 3 refine V rfl ?_
 refine W (Bh (Am rfl rfl rfl rfl rfl Bc) rfl (Ak rfl rfl rfl) Tryz.underlying52 rfl rfl) rfl ?_
 refine V rfl ?_
 obtain ⟨h0, c9, H⟩ := bind_some H
 rcases h0 with h1 | n3
 {
 refine Ai (ih167 e f g h Sl.nil b (Hp.pick (As a 52) 20 [4, 5, 6, 7, 8, 9, 10, 11, 12, 13, 14, 15, 16, 1, 17, 18, 19, 0, 2, 3] rfl) c9) rfl rfl rfl rfl ?_
 obtain ⟨n4, n5⟩ := h1
 rintro _ je ⟨h2, n6, rfl, ew, n7, f6⟩
 refine Al f6 18 rfl (Af rfl rfl rfl (by exact on rfl (on rfl (on rfl (on rfl (on ew.isOne on0))))) rfl rfl) rfl rfl rfl rfl rfl ?_
 intro jf ca
 refine Ab ?_
 obtain rfl := so H
 refine Aw (Fin.mk' (Bf ca 18 rfl rfl rfl rfl) ?_)
 exact ⟨h2, rfl, ew, (Hp.pick ca 20 [0, 1, 3, 4, 5, 6, 7, 8, 9, 10, 11, 12, 13, 14, 15, 16, 17] rfl)⟩}
 {
 refine Aj (ih167 e f g h Sl.nil b (Hp.pick (As a 52) 20 [4, 5, 6, 7, 8, 9, 10, 11, 12, 13, 14, 15, 16, 1, 17, 18, 19, 0, 2, 3] rfl) c9) rfl rfl ?_
 intro jg f7
 obtain rfl := so H
 exact Fin.pan (C := cfg) (fn := Tryz.f168) ⟨rfl, (Hp.pick f7 2 [] rfl)⟩}}
 {
 have H := Av ah H
 refine A7 (Ac (Ac (Aa (V rfl (Ab ?_)))))
 refine Bb (Ac (Aa (W (B9 rfl (Bi _ _)) rfl (V rfl (Ab ?_)))))
 refine An (t := (decide (q = (ByteArray.mk #[110, 111, 116])))) rfl (fun ai => ?_) (fun ai => ?_)
 {
 have H := Au ai H
 refine Ac (Aa (V rfl ?_))
 refine W (Bh (Am rfl rfl rfl rfl rfl Bc) rfl (Ak rfl rfl rfl) Tryz.underlying52 rfl rfl) rfl ?_
 refine V rfl ?_
 obtain ⟨h3, cb, H⟩ := bind_some H
 rcases h3 with h4 | n8
 {
 refine Ai (ih167 e f g h Sl.nil b (Hp.pick (As a 52) 20 [4, 5, 6, 7, 8, 9, 10, 11, 12, 13, 14, 15, 16, 1, 17, 18, 19, 0, 2, 3] rfl) cb) rfl rfl rfl rfl ?_
 obtain ⟨n9, na⟩ := h4
 rintro _ jh ⟨h5, nb, rfl, ex, nc, f8⟩
 refine Al f8 18 rfl (Af rfl rfl rfl (by exact on rfl (on rfl (on rfl (on rfl (on ex.isOne on0))))) rfl rfl) rfl rfl rfl rfl rfl ?_
 intro ji cc
 refine Ab ?_
 obtain rfl := so H
 refine Aw (Fin.mk' (Bf cc 18 rfl rfl rfl rfl) ?_)
 exact ⟨h5, rfl, ex, (Hp.pick cc 20 [0, 1, 3, 4, 5, 6, 7, 8, 9, 10, 11, 12, 13, 14, 15, 16, 17] rfl)⟩}
 {
 refine Aj (ih167 e f g h Sl.nil b (Hp.pick (As a 52) 20 [4, 5, 6, 7, 8, 9, 10, 11, 12, 13, 14, 15, 16, 1, 17, 18, 19, 0, 2, 3] rfl) cb) rfl rfl ?_
 intro jj f9
 obtain rfl := so H
 exact Fin.pan (C := cfg) (fn := Tryz.f168) ⟨rfl, (Hp.pick f9 2 [] rfl)⟩}}
 {
 have H := Av ai H
 refine Ac (Aa (W (B9 rfl (Bi _ _)) rfl (V rfl (Ab ?_))))
 refine An (t := (decide (q = (ByteArray.mk #[110, 101, 103])))) rfl (fun aj => ?_) (fun aj => ?_)
 {
 have H := Au aj H
 refine Ac (Aa (V rfl ?_))
 refine W (Bh (Am rfl rfl rfl rfl rfl Bc) rfl (Ak rfl rfl rfl) Tryz.underlying52 rfl rfl) rfl ?_
 refine V rfl ?_
 obtain ⟨fa, aq, H⟩ := bind_some H
 rcases fa with fb | jk
 {
 refine Ai (ih167 e f g h Sl.nil b (Hp.pick (As a 52) 20 [4, 5, 6, 7, 8, 9, 10, 11, 12, 13, 14, 15, 16, 1, 17, 18, 19, 0, 2, 3] rfl) aq) rfl rfl rfl rfl ?_
 obtain ⟨nd, ne⟩ := fb
 rintro _ jl ⟨h6, nf, rfl, ey, ng, fc⟩
 refine Al fc 18 rfl (Af rfl rfl rfl (by exact on rfl (on rfl (on rfl (on rfl (on ey.isOne on0))))) rfl rfl) rfl rfl rfl rfl rfl ?_
 intro h7 ar
 refine Ab ?_
 obtain rfl := so H
 refine Aw (Fin.mk' (Bf ar 18 rfl rfl rfl rfl) ?_)
 exact ⟨h6, rfl, ey, (Hp.pick ar 20 [0, 1, 3, 4, 5, 6, 7, 8, 9, 10, 11, 12, 13, 14, 15, 16, 17] rfl)⟩}
 {
 refine Aj (ih167 e f g h Sl.nil b (Hp.pick (As a 52) 20 [4, 5, 6, 7, 8, 9, 10, 11, 12, 13, 14, 15, 16, 1, 17, 18, 19, 0, 2, 3] rfl) aq) rfl rfl ?_
 intro h8 dr
 obtain rfl := so H
 exact Fin.pan (C := cfg) (fn := Tryz.f168) ⟨rfl, (Hp.pick dr 2 [] rfl)⟩}}
 {
 have H := Av aj H
 refine Ac (Aa (W (B9 rfl (Bi _ _)) rfl (V rfl (Ab ?_))))
 refine An (t := (decide (q = (ByteArray.mk #[99])))) rfl (fun a3 => ?_) (fun a3 => ?_)
 {
 have H := Au a3 H
 refine Ac (Aa (V rfl ?_))
 obtain ⟨fd, au, H⟩ := bind_some H
 rcases fd with fe | jm
 {
 refine Ai (Bg b a au) rfl rfl rfl rfl ?_
 obtain ⟨jn, jo⟩ := fe
 rintro _ h9 ⟨jp, rfl, cd, av⟩
 refine V rfl (Ab (Ac (Aa ?_)))
 iterate 3 refine V rfl ?_
 obtain ⟨ff, aw, H⟩ := bind_some H
 rcases ff with fg | jq
 {
 refine Ai (Bj cd av aw) rfl rfl rfl rfl ?_
 obtain ⟨jr, js⟩ := fg
 rintro _ ha ⟨jt, ju, rfl, jv, ce, ax⟩
 refine V rfl ?_
 refine W (Bh (Am rfl rfl rfl rfl rfl (Am rfl rfl rfl rfl rfl (Am rfl rfl rfl rfl rfl Bc))) rfl (Ak rfl rfl (Ak rfl rfl (Ak rfl rfl rfl))) Tryz.underlying52 rfl rfl) rfl ?_
 refine V rfl ?_
 obtain ⟨fh, ay, H⟩ := bind_some H
 rcases fh with fi | jw
 {
 refine Ai (ih167 e f g h Sl.nil ce (Hp.pick (As ax 52) 20 [4, 5, 6, 7, 8, 9, 10, 11, 12, 13, 14, 15, 16, 1, 17, 18, 19, 0, 2, 3] rfl) ay) rfl rfl rfl rfl ?_
 obtain ⟨jx, jy⟩ := fi
 rintro _ hb ⟨fj, jz, rfl, cf, k0, ds⟩
 refine Al ds 18 rfl (Af rfl rfl rfl (by exact on rfl (on rfl (on rfl (on rfl (on cf.isOne on0))))) rfl rfl) rfl rfl rfl rfl rfl ?_
 intro hc az
 refine Ab ?_
 obtain rfl := so H
 refine Aw (Fin.mk' (Bf az 18 rfl rfl rfl rfl) ?_)
 exact ⟨fj, rfl, cf, (Hp.pick az 20 [0, 1, 3, 4, 5, 6, 7, 8, 9, 10, 11, 12, 13, 14, 15, 16, 17] rfl)⟩}
 {
 refine Aj (ih167 e f g h Sl.nil ce (Hp.pick (As ax 52) 20 [4, 5, 6, 7, 8, 9, 10, 11, 12, 13, 14, 15, 16, 1, 17, 18, 19, 0, 2, 3] rfl) ay) rfl rfl ?_
 intro hd dt
 obtain rfl := so H
 exact Fin.pan (C := cfg) (fn := Tryz.f168) ⟨rfl, (Hp.pick dt 2 [] rfl)⟩}}
 {
 refine Aj (Bj cd av aw) rfl rfl ?_
 intro he du
 obtain rfl := so H
 exact Fin.pan (C := cfg) (fn := Tryz.f168) ⟨rfl, (Hp.pick du 18 [] rfl)⟩}}
 {
 refine Aj (Bg b a au) rfl rfl ?_
 intro hf dv
 obtain rfl := so H
 exact Fin.pan (C := cfg) (fn := Tryz.f168) ⟨rfl, (Hp.pick dv 18 [] rfl)⟩}}
 {
 have H := Av a3 H
 refine Ac (Aa (W (B9 rfl (Bi _ _)) rfl (V rfl (Ab ?_))))
 refine An (t := (decide (q = (ByteArray.mk #[105, 109, 109])))) rfl (fun a4 => ?_) (fun a4 => ?_)
 {
 have H := Au a4 H
 refine Ac ?_
 obtain ⟨cg, dw, H⟩ := bind_some H
 refine A4 (J := (fun (v : LR (Int × (List Ae)) (PR Ao Int)) (x : X) (φ : Fr) (s : St) => match v with | .out (ak, ch) => x = .normal ∧ (∃ (al : A), Sl A0 al ch ∧ Hp s (C0 k a2 (.blk i (.cells [(vS c), (vS d), w, y, a0] 50) :: .blk an (.cells [(vI 0), (vI 0), (vI 0), (vI 0), A5] 52) :: .blk a1 (.cells [al] 167) :: .app w 130 :: .app y 132 :: .app a0 52 :: R)) ∧ Fl [(0, (.ptr k 0)), (4, (.ptr an 0)), (5, (.ptr a1 0)), (9, (vI ak))] φ) | .ret r => FinR cfg Tryz.f168 (gr_term_post k i c d w y a0 a2 R r) x φ s) cg) ?_ ?_
 {
 have H := dw
 refine C5 (by kernel_rfl) ?_
 iterate 3 refine Az rfl rfl rfl rfl rfl rfl ?_
 obtain ⟨k1, k2, k3, k4, k5, k6, k7, k8, k9, ka, kb, rfl, kc, kd, ke, kf, kg, kh, ki, kj, kk, kl, km⟩ := h
 refine Az (Ag a 3 rfl rfl rfl rfl) rfl rfl rfl rfl rfl (Az rfl rfl rfl rfl rfl rfl (Az rfl rfl rfl rfl rfl rfl (Az (Ag a 15 rfl rfl rfl rfl) rfl rfl rfl rfl rfl (Az rfl rfl rfl rfl rfl rfl ?_))))
 obtain ⟨fk, b0, H⟩ := bind_some H
 rcases fk with ci | kn
 rotate_left
 {
 refine Bn (A1 b a b0) rfl rfl rfl rfl rfl (by kernel_rfl) ?_
 intro hg dx
 obtain rfl := so H
 exact Bm (C := cfg) (fn := Tryz.f168) ⟨rfl, (Hp.pick dx 18 [] rfl)⟩}
 refine Bk (CaO.val (A1 b a b0)) rfl rfl rfl rfl rfl (by obtain ⟨fm, fo⟩ := ci; rintro _ dy ⟨cj, rfl, ck, u⟩; exact (Ad rfl (B7 rfl (Ag u 15 rfl rfl rfl rfl) (Ad rfl (Ad rfl (B7 rfl (Ag u 3 rfl rfl rfl rfl) (Ad rfl (Ad rfl (Ad rfl A6))))))))) ?_
 obtain ⟨fm, fo⟩ := ci
 rintro _ dy ⟨cj, rfl, ck, u⟩
 obtain ⟨fp, b1, H⟩ := bind_some H
 rcases fp with ko | kp
 rotate_left
 {
 refine Bn (Eg e u b1) rfl rfl rfl rfl rfl (by kernel_rfl) ?_
 intro hh dz
 obtain rfl := so H
 exact Bm (C := cfg) (fn := Tryz.f168) ⟨rfl, (Hp.pick dz 19 [] rfl)⟩}
 refine Bk (CaO.val (Eg e u b1)) rfl rfl rfl rfl rfl (fun _ _ _ => (Ad rfl (Bd (by kernel_rfl) (Ad rfl (Ad rfl (Bd (by kernel_rfl) (Ad rfl (Ad rfl (Ad rfl A6))))))))) ?_
 rintro _ hi ⟨rfl, e0⟩
 refine A9 rfl rfl rfl rfl rfl (Ar rfl (Ar rfl A8)) (Dh ?_)
 obtain rfl := so H
 exact And.intro rfl ⟨cj, ck, (Hp.pick e0 16 [3, 4, 5, 6, 7, 8, 9, 10, 11, 12, 13, 14, 15, 1, 0] rfl), (fl rfl)⟩}
 {
 rcases cg with ⟨ak, ch⟩ | kq
 {
 intro x hj hk hJ
 obtain ⟨rfl, al, cl, b2, e1⟩ := hJ
 refine Be (F := [(0, (.ptr k 0)), (4, (.ptr an 0)), (5, (.ptr a1 0)), (9, (vI ak))]) e1 (Ac (Aa ?_))
 iterate 3 refine V rfl ?_
 obtain ⟨fq, b3, H⟩ := bind_some H
 rcases fq with fr | kr
 {
 refine Ai (Bg cl (Hp.pick b2 15 [14, 0, 1, 2, 3, 4, 5, 6, 7, 8, 9, 10, 11, 12, 13] rfl) b3) rfl rfl rfl rfl ?_
 obtain ⟨ks, kt⟩ := fr
 rintro _ hl ⟨ku, rfl, cm, b4⟩
 refine W (Bh (Am rfl rfl rfl rfl rfl (Am rfl rfl rfl rfl rfl (Am rfl rfl rfl rfl rfl Bc))) rfl (Ak rfl rfl (Ak rfl rfl (Ak rfl rfl rfl))) Tryz.underlying52 rfl rfl) rfl ?_
 refine V rfl ?_
 obtain ⟨fs, b5, H⟩ := bind_some H
 rcases fs with ft | kv
 {
 refine Ai (ih167 e f g h Sl.nil cm (Hp.pick (As b4 52) 19 [2, 3, 4, 5, 6, 7, 8, 9, 10, 11, 12, 13, 14, 1, 16, 17, 18, 0, 15] rfl) b5) rfl rfl rfl rfl ?_
 obtain ⟨kw, kx⟩ := ft
 rintro _ hm ⟨fu, ky, rfl, cn, kz, e2⟩
 refine Al e2 18 rfl (Af rfl rfl rfl (by exact on rfl (on rfl (on rfl (on rfl (on cn.isOne on0))))) rfl rfl) rfl rfl rfl rfl rfl ?_
 intro hn b6
 refine Ab ?_
 obtain rfl := so H
 refine Aw (Fin.mk' (Bf b6 18 rfl rfl rfl rfl) ?_)
 exact ⟨fu, rfl, cn, (Hp.pick b6 19 [0, 1, 3, 4, 5, 6, 7, 8, 9, 10, 11, 12, 13, 14, 15, 16, 17] rfl)⟩}
 {
 refine Aj (ih167 e f g h Sl.nil cm (Hp.pick (As b4 52) 19 [2, 3, 4, 5, 6, 7, 8, 9, 10, 11, 12, 13, 14, 1, 16, 17, 18, 0, 15] rfl) b5) rfl rfl ?_
 intro ho e3
 obtain rfl := so H
 exact Fin.pan (C := cfg) (fn := Tryz.f168) ⟨rfl, (Hp.pick e3 1 [] rfl)⟩}}
 {
 refine Aj (Bg cl (Hp.pick b2 15 [14, 0, 1, 2, 3, 4, 5, 6, 7, 8, 9, 10, 11, 12, 13] rfl) b3) rfl rfl ?_
 intro hq e4
 obtain rfl := so H
 exact Fin.pan (C := cfg) (fn := Tryz.f168) ⟨rfl, (Hp.pick e4 17 [] rfl)⟩}}
 {
 intro x hr hs hJ
 obtain rfl := so H
 cases x <;> first | exact hJ | exact hJ.elim}}}
 {
 have H := Av a4 H
 refine Ac (Aa (W (B9 rfl (Bi _ _)) rfl (V rfl (Ab ?_))))
 refine An (t := (decide (q = (ByteArray.mk #[102, 108, 97, 103])))) rfl (fun a5 => ?_) (fun a5 => ?_)
 {
 have H := Au a5 H
 refine Ac (Aa ?_)
 iterate 3 refine V rfl ?_
 obtain ⟨fv, b7, H⟩ := bind_some H
 rcases fv with fw | l0
 {
 refine Ai (gr_flag_ok e f g h b (Hp.pick a 19 [3, 4, 5, 6, 7, 8, 9, 10, 11, 12, 13, 14, 15, 0, 16, 17, 18, 1, 2] rfl) b7) rfl rfl rfl rfl ?_
 obtain ⟨l1, l2⟩ := fw
 rintro _ ht ⟨l3, rfl, co, b8⟩
 refine W (Bh (Am rfl rfl rfl rfl rfl (Am rfl rfl rfl rfl rfl Bc)) rfl (Ak rfl rfl (Ak rfl rfl rfl)) Tryz.underlying52 rfl rfl) rfl ?_
 refine V rfl ?_
 obtain ⟨fx, b9, H⟩ := bind_some H
 rcases fx with fy | l4
 {
 refine Ai (ih167 e f g h Sl.nil co (Hp.pick (As b8 52) 18 [1, 4, 5, 6, 7, 8, 9, 10, 11, 12, 13, 14, 2, 3, 15, 16, 17, 0] rfl) b9) rfl rfl rfl rfl ?_
 obtain ⟨l5, l6⟩ := fy
 rintro _ hu ⟨fz, l7, rfl, cp, l8, e5⟩
 refine Al e5 18 rfl (Af rfl rfl rfl (by exact on rfl (on rfl (on rfl (on rfl (on cp.isOne on0))))) rfl rfl) rfl rfl rfl rfl rfl ?_
 intro hv ba
 refine Ab ?_
 obtain rfl := so H
 refine Aw (Fin.mk' (Bf ba 18 rfl rfl rfl rfl) ?_)
 exact ⟨fz, rfl, cp, (Hp.pick ba 20 [0, 1, 3, 4, 5, 6, 7, 8, 9, 10, 11, 12, 13, 14, 15, 16, 17] rfl)⟩}
 {
 refine Aj (ih167 e f g h Sl.nil co (Hp.pick (As b8 52) 18 [1, 4, 5, 6, 7, 8, 9, 10, 11, 12, 13, 14, 2, 3, 15, 16, 17, 0] rfl) b9) rfl rfl ?_
 intro hw e6
 obtain rfl := so H
 exact Fin.pan (C := cfg) (fn := Tryz.f168) ⟨rfl, (Hp.pick e6 2 [] rfl)⟩}}
 {
 refine Aj (gr_flag_ok e f g h b (Hp.pick a 19 [3, 4, 5, 6, 7, 8, 9, 10, 11, 12, 13, 14, 15, 0, 16, 17, 18, 1, 2] rfl) b7) rfl rfl ?_
 intro hx e7
 obtain rfl := so H
 exact Fin.pan (C := cfg) (fn := Tryz.f168) ⟨rfl, (Hp.pick e7 2 [] rfl)⟩}}
 {
 have H := Av a5 H
 refine Ac (Aa (W (B9 rfl (Bi _ _)) rfl (V rfl (Ab ?_))))
 refine An (t := (decide (q = (ByteArray.mk #[108, 100])))) rfl (fun a6 => ?_) (fun a6 => ?_)
 {
 have H := Au a6 H
 refine Ac (Aa (V rfl (V rfl ?_)))
 obtain ⟨g0, bb, H⟩ := bind_some H
 rcases g0 with g1 | l9
 {
 refine Ai (Bg b a bb) rfl rfl rfl rfl ?_
 obtain ⟨la, lb⟩ := g1
 rintro _ hy ⟨lc, rfl, cq, bc⟩
 refine W (Bh (Am rfl rfl rfl rfl rfl (Am rfl rfl rfl rfl rfl Bc)) rfl (Ak rfl rfl (Ak rfl rfl rfl)) Tryz.underlying52 rfl rfl) rfl ?_
 refine V rfl ?_
 obtain ⟨g2, bd, H⟩ := bind_some H
 rcases g2 with g3 | ld
 {
 refine Ai (ih167 e f g h Sl.nil cq (Hp.pick (As bc 52) 20 [4, 5, 6, 7, 8, 9, 10, 11, 12, 13, 14, 15, 16, 1, 17, 18, 19, 0, 2, 3] rfl) bd) rfl rfl rfl rfl ?_
 obtain ⟨le, lf⟩ := g3
 rintro _ hz ⟨g4, lg, rfl, cr, lh, e8⟩
 refine Al e8 18 rfl (Af rfl rfl rfl (by exact on rfl (on rfl (on rfl (on rfl (on cr.isOne on0))))) rfl rfl) rfl rfl rfl rfl rfl ?_
 intro i0 be
 refine Ab ?_
 obtain rfl := so H
 refine Aw (Fin.mk' (Bf be 18 rfl rfl rfl rfl) ?_)
 exact ⟨g4, rfl, cr, (Hp.pick be 20 [0, 1, 3, 4, 5, 6, 7, 8, 9, 10, 11, 12, 13, 14, 15, 16, 17] rfl)⟩}
 {
 refine Aj (ih167 e f g h Sl.nil cq (Hp.pick (As bc 52) 20 [4, 5, 6, 7, 8, 9, 10, 11, 12, 13, 14, 15, 16, 1, 17, 18, 19, 0, 2, 3] rfl) bd) rfl rfl ?_
 intro i1 e9
 obtain rfl := so H
 exact Fin.pan (C := cfg) (fn := Tryz.f168) ⟨rfl, (Hp.pick e9 2 [] rfl)⟩}}
 {
 refine Aj (Bg b a bb) rfl rfl ?_
 intro i2 ea
 obtain rfl := so H
 exact Fin.pan (C := cfg) (fn := Tryz.f168) ⟨rfl, (Hp.pick ea 18 [] rfl)⟩}}
 {
 have H := Av a6 H
 refine Ac (Aa (W (B9 rfl (Bi _ _)) rfl (V rfl (Ab ?_))))
 refine An (t := (decide (q = (ByteArray.mk #[105, 102])))) rfl (fun a7 => ?_) (fun a7 => ?_)
 {
 have H := Au a7 H
 refine Ac (Aa (V rfl ?_))
 refine W (Bh (Am rfl rfl rfl rfl rfl Bc) rfl (Ak rfl rfl rfl) Tryz.underlying52 rfl rfl) rfl ?_
 refine V rfl ?_
 obtain ⟨g5, bf, H⟩ := bind_some H
 rcases g5 with g6 | li
 {
 refine Ai (ih167 e f g h Sl.nil b (Hp.pick (As a 52) 20 [4, 5, 6, 7, 8, 9, 10, 11, 12, 13, 14, 15, 16, 1, 17, 18, 19, 0, 2, 3] rfl) bf) rfl rfl rfl rfl ?_
 obtain ⟨lj, lk⟩ := g6
 rintro _ i3 ⟨g7, ll, rfl, cs, lm, eb⟩
 refine Al eb 18 rfl (Af rfl rfl rfl (by exact on rfl (on rfl (on rfl (on rfl (on cs.isOne on0))))) rfl rfl) rfl rfl rfl rfl rfl ?_
 intro i4 bg
 refine Ab ?_
 obtain rfl := so H
 refine Aw (Fin.mk' (Bf bg 18 rfl rfl rfl rfl) ?_)
 exact ⟨g7, rfl, cs, (Hp.pick bg 20 [0, 1, 3, 4, 5, 6, 7, 8, 9, 10, 11, 12, 13, 14, 15, 16, 17] rfl)⟩}
 {
 refine Aj (ih167 e f g h Sl.nil b (Hp.pick (As a 52) 20 [4, 5, 6, 7, 8, 9, 10, 11, 12, 13, 14, 15, 16, 1, 17, 18, 19, 0, 2, 3] rfl) bf) rfl rfl ?_
 intro i5 ec
 obtain rfl := so H
 exact Fin.pan (C := cfg) (fn := Tryz.f168) ⟨rfl, (Hp.pick ec 2 [] rfl)⟩}}
 {
 have H := Av a7 H
 refine Ac (Aa (W (B9 rfl (Bi _ _)) rfl (V rfl (Ab ?_))))
 refine An (t := (decide (q = (ByteArray.mk #[115, 120])))) rfl (fun a8 => ?_) (fun a8 => ?_)
 {
 have H := Au a8 H
 refine Ac (Aa (V rfl (V rfl ?_)))
 obtain ⟨g8, bh, H⟩ := bind_some H
 rcases g8 with g9 | ln
 {
 refine Ai (Bg b a bh) rfl rfl rfl rfl ?_
 obtain ⟨lo, lp⟩ := g9
 rintro _ i6 ⟨lq, rfl, ct, bi⟩
 refine W (Bh (Am rfl rfl rfl rfl rfl (Am rfl rfl rfl rfl rfl Bc)) rfl (Ak rfl rfl (Ak rfl rfl rfl)) Tryz.underlying52 rfl rfl) rfl ?_
 refine V rfl ?_
 obtain ⟨ga, bj, H⟩ := bind_some H
 rcases ga with gb | lr
 {
 refine Ai (ih167 e f g h Sl.nil ct (Hp.pick (As bi 52) 20 [4, 5, 6, 7, 8, 9, 10, 11, 12, 13, 14, 15, 16, 1, 17, 18, 19, 0, 2, 3] rfl) bj) rfl rfl rfl rfl ?_
 obtain ⟨ls, lt⟩ := gb
 rintro _ i7 ⟨gc, lu, rfl, cu, lv, ed⟩
 refine Al ed 18 rfl (Af rfl rfl rfl (by exact on rfl (on rfl (on rfl (on rfl (on cu.isOne on0))))) rfl rfl) rfl rfl rfl rfl rfl ?_
 intro i8 bk
 refine Ab ?_
 obtain rfl := so H
 refine Aw (Fin.mk' (Bf bk 18 rfl rfl rfl rfl) ?_)
 exact ⟨gc, rfl, cu, (Hp.pick bk 20 [0, 1, 3, 4, 5, 6, 7, 8, 9, 10, 11, 12, 13, 14, 15, 16, 17] rfl)⟩}
 {
 refine Aj (ih167 e f g h Sl.nil ct (Hp.pick (As bi 52) 20 [4, 5, 6, 7, 8, 9, 10, 11, 12, 13, 14, 15, 16, 1, 17, 18, 19, 0, 2, 3] rfl) bj) rfl rfl ?_
 intro i9 ee
 obtain rfl := so H
 exact Fin.pan (C := cfg) (fn := Tryz.f168) ⟨rfl, (Hp.pick ee 2 [] rfl)⟩}}
 {
 refine Aj (Bg b a bh) rfl rfl ?_
 intro ia ef
 obtain rfl := so H
 exact Fin.pan (C := cfg) (fn := Tryz.f168) ⟨rfl, (Hp.pick ef 18 [] rfl)⟩}}
 {
 have H := Av a8 H
 refine Ac (Aa (W (B9 rfl (Bi _ _)) rfl (V rfl (Ab ?_))))
 refine An (t := (decide (q = (ByteArray.mk #[122, 120])))) rfl (fun a9 => ?_) (fun a9 => ?_)
 {
 have H := Au a9 H
 refine Ac (Aa (V rfl (V rfl ?_)))
 obtain ⟨gd, bl, H⟩ := bind_some H
 rcases gd with ge | lw
 {
 refine Ai (Bg b a bl) rfl rfl rfl rfl ?_
 obtain ⟨lx, ly⟩ := ge
 rintro _ ib ⟨lz, rfl, cv, bm⟩
 refine W (Bh (Am rfl rfl rfl rfl rfl (Am rfl rfl rfl rfl rfl Bc)) rfl (Ak rfl rfl (Ak rfl rfl rfl)) Tryz.underlying52 rfl rfl) rfl ?_
 refine V rfl ?_
 obtain ⟨gf, bn, H⟩ := bind_some H
 rcases gf with gg | m0
 {
 refine Ai (ih167 e f g h Sl.nil cv (Hp.pick (As bm 52) 20 [4, 5, 6, 7, 8, 9, 10, 11, 12, 13, 14, 15, 16, 1, 17, 18, 19, 0, 2, 3] rfl) bn) rfl rfl rfl rfl ?_
 obtain ⟨m1, m2⟩ := gg
 rintro _ ic ⟨gh, m3, rfl, cw, m4, eg⟩
 refine Al eg 18 rfl (Af rfl rfl rfl (by exact on rfl (on rfl (on rfl (on rfl (on cw.isOne on0))))) rfl rfl) rfl rfl rfl rfl rfl ?_
 intro id bo
 refine Ab ?_
 obtain rfl := so H
 refine Aw (Fin.mk' (Bf bo 18 rfl rfl rfl rfl) ?_)
 exact ⟨gh, rfl, cw, (Hp.pick bo 20 [0, 1, 3, 4, 5, 6, 7, 8, 9, 10, 11, 12, 13, 14, 15, 16, 17] rfl)⟩}
 {
 refine Aj (ih167 e f g h Sl.nil cv (Hp.pick (As bm 52) 20 [4, 5, 6, 7, 8, 9, 10, 11, 12, 13, 14, 15, 16, 1, 17, 18, 19, 0, 2, 3] rfl) bn) rfl rfl ?_
 intro ie eh
 obtain rfl := so H
 exact Fin.pan (C := cfg) (fn := Tryz.f168) ⟨rfl, (Hp.pick eh 2 [] rfl)⟩}}
 {
 refine Aj (Bg b a bl) rfl rfl ?_
 intro ig ei
 obtain rfl := so H
 exact Fin.pan (C := cfg) (fn := Tryz.f168) ⟨rfl, (Hp.pick ei 18 [] rfl)⟩}}
 {
 have H := Av a9 H
 refine Ac (Aa (W (B9 rfl (Bi _ _)) rfl (V rfl (Ab ?_))))
 refine An (t := (decide (q = (ByteArray.mk #[101, 120])))) rfl (fun aa => ?_) (fun aa => ?_)
 {
 have H := Au aa H
 refine Ac (Aa (V rfl ?_))
 obtain ⟨gi, bp, H⟩ := bind_some H
 rcases gi with gj | m5
 {
 refine Ai (Bg b a bp) rfl rfl rfl rfl ?_
 obtain ⟨m6, m7⟩ := gj
 rintro _ ih ⟨m8, rfl, cx, bq⟩
 refine V rfl (Ab (Ac (Aa ?_)))
 iterate 3 refine V rfl ?_
 obtain ⟨gk, br, H⟩ := bind_some H
 rcases gk with gl | m9
 {
 refine Ai (Bg cx bq br) rfl rfl rfl rfl ?_
 obtain ⟨ma, mb⟩ := gl
 rintro _ ii ⟨mc, rfl, cy, bs⟩
 refine W (Bh (Am rfl rfl rfl rfl rfl (Am rfl rfl rfl rfl rfl (Am rfl rfl rfl rfl rfl Bc))) rfl (Ak rfl rfl (Ak rfl rfl (Ak rfl rfl rfl))) Tryz.underlying52 rfl rfl) rfl ?_
 refine V rfl ?_
 obtain ⟨gm, bt, H⟩ := bind_some H
 rcases gm with gn | md
 {
 refine Ai (ih167 e f g h Sl.nil cy (Hp.pick (As bs 52) 20 [4, 5, 6, 7, 8, 9, 10, 11, 12, 13, 14, 15, 16, 1, 17, 18, 19, 0, 2, 3] rfl) bt) rfl rfl rfl rfl ?_
 obtain ⟨me, mf⟩ := gn
 rintro _ ij ⟨go, mg, rfl, cz, mh, ej⟩
 refine Al ej 18 rfl (Af rfl rfl rfl (by exact on rfl (on rfl (on rfl (on rfl (on cz.isOne on0))))) rfl rfl) rfl rfl rfl rfl rfl ?_
 intro ik bu
 refine Ab ?_
 obtain rfl := so H
 refine Aw (Fin.mk' (Bf bu 18 rfl rfl rfl rfl) ?_)
 exact ⟨go, rfl, cz, (Hp.pick bu 20 [0, 1, 3, 4, 5, 6, 7, 8, 9, 10, 11, 12, 13, 14, 15, 16, 17] rfl)⟩}
 {
 refine Aj (ih167 e f g h Sl.nil cy (Hp.pick (As bs 52) 20 [4, 5, 6, 7, 8, 9, 10, 11, 12, 13, 14, 15, 16, 1, 17, 18, 19, 0, 2, 3] rfl) bt) rfl rfl ?_
 intro il ek
 obtain rfl := so H
 exact Fin.pan (C := cfg) (fn := Tryz.f168) ⟨rfl, (Hp.pick ek 2 [] rfl)⟩}}
 {
 refine Aj (Bg cx bq br) rfl rfl ?_
 intro im el
 obtain rfl := so H
 exact Fin.pan (C := cfg) (fn := Tryz.f168) ⟨rfl, (Hp.pick el 18 [] rfl)⟩}}
 {
 refine Aj (Bg b a bp) rfl rfl ?_
 intro io em
 obtain rfl := so H
 exact Fin.pan (C := cfg) (fn := Tryz.f168) ⟨rfl, (Hp.pick em 18 [] rfl)⟩}}
 {
 have H := Av aa H
 refine A7 (Ac (Aa ?_))
 obtain ⟨mi, d0, H⟩ := bind_some H
 refine A2 rfl rfl rfl rfl (prim106_ok a d0) ?_
 rintro mj ip ⟨_, rfl, gp, en⟩
 refine V rfl ?_
 obtain ⟨mk, d1, H⟩ := bind_some H
 refine A2 rfl rfl rfl rfl (Kp gp en d1) ?_
 rintro _ iq ⟨rfl, bv⟩
 refine V rfl ?_
 obtain ⟨gq, bw, H⟩ := bind_some H
 rcases gq with ml | mm
 {
 refine Ai (Ah bv bw) rfl rfl rfl rfl ?_
 rintro _ ir ⟨rfl, ab⟩
 refine Ab (Ac (Aa ?_))
 iterate 5 refine V rfl ?_
 obtain ⟨d2, d3, d4, d5, d6, d7, d8, d9, da, db, dc, rfl, ac, dd, de, df, dg, dh, di, dj, dk, dl, dm⟩ := h
 refine W (Ag ab 3 rfl rfl rfl rfl) rfl (V rfl ?_)
 obtain ⟨gr, bx, H⟩ := bind_some H
 rcases gr with mn | mo
 {
 refine Ai (Ef ac ab bx) rfl rfl rfl rfl ?_
 rintro _ it ⟨rfl, bz⟩
 refine V rfl ?_
 obtain ⟨gs, c0, H⟩ := bind_some H
 rcases gs with gt | mp
 {
 refine Ai (gr_register_ok e f g ⟨d2, d3, d4, d5, d6, d7, d8, d9, da, db, dc, rfl, ac, dd, de, df, dg, dh, di, dj, dk, dl, dm⟩ b (Hp.pick bz 19 [3, 4, 5, 6, 7, 8, 9, 10, 11, 12, 13, 14, 15, 0, 16, 17, 18, 1, 2] rfl) c0) rfl rfl rfl rfl ?_
 obtain ⟨mq, mr⟩ := gt
 rintro _ iu ⟨gu, ms, rfl, dn, mt, eo⟩
 refine Al eo 18 rfl (Af rfl rfl rfl (by exact on rfl (on rfl (on rfl (on rfl (on dn.isOne on0))))) rfl rfl) rfl rfl rfl rfl rfl ?_
 intro iv c1
 refine Ab ?_
 obtain rfl := so H
 refine Aw (Fin.mk' (Bf c1 18 rfl rfl rfl rfl) ?_)
 exact ⟨gu, rfl, dn, (Hp.pick c1 20 [0, 1, 3, 4, 5, 6, 7, 8, 9, 10, 11, 12, 13, 14, 15, 16, 17] rfl)⟩}
 {
 refine Aj (gr_register_ok e f g ⟨d2, d3, d4, d5, d6, d7, d8, d9, da, db, dc, rfl, ac, dd, de, df, dg, dh, di, dj, dk, dl, dm⟩ b (Hp.pick bz 19 [3, 4, 5, 6, 7, 8, 9, 10, 11, 12, 13, 14, 15, 0, 16, 17, 18, 1, 2] rfl) c0) rfl rfl ?_
 intro iw ep
 obtain rfl := so H
 exact Fin.pan (C := cfg) (fn := Tryz.f168) ⟨rfl, (Hp.pick ep 2 [] rfl)⟩}}
 {
 refine Aj (Ef ac ab bx) rfl rfl ?_
 intro ix eq
 obtain rfl := so H
 exact Fin.pan (C := cfg) (fn := Tryz.f168) ⟨rfl, (Hp.pick eq 19 [] rfl)⟩}}
 {
 refine Aj (Ah bv bw) rfl rfl ?_
 intro iy er
 obtain rfl := so H
 exact Fin.pan (C := cfg) (fn := Tryz.f168) ⟨rfl, (Hp.pick er 19 [] rfl)⟩}}}}}}}}}}}}}
 {
 refine Aj (A1 ev c8 ap) rfl rfl ?_
 intro iz es
 obtain rfl := so H
 exact Fin.pan (C := cfg) (fn := Tryz.f168) ⟨rfl, (Hp.pick es 18 [] rfl)⟩}}
 {
 refine Aj (Bo am p ao) rfl rfl ?_
 intro j0 et
 obtain rfl := so H
 exact Fin.pan (C := cfg) (fn := Tryz.f168) ⟨rfl, (Hp.pick et 18 [] rfl)⟩}}

theorem gr_terms_rec_ok {n : Nat} : ∀ (k : Nat) {j : Nat} {e : Nat} {g : Nat} {av : TRd} {a : ByteArray} {b : ByteArray} {l : (List Da)} {o : (List B5)} {p : (List Ao)} {h : Ao} {a4 : (List Ae)} {a2 : Int} {q : A} {u : A} {w : A} {a8 : (List A)} {ae : A} {ad : A} {R : List Res} {σ : St} (b8 : Sl rTArg q l) (b9 : Sl Hm u o) (ba : Sl Cm w p) (bb : E2 (.ptr e 0) av a8) (al : Sl Cm ae h.f_Kids) (aw : Sl A0 ad a4) (hp : Hp σ (C0 j a8 (.blk e (.cells [(vS a), (vS b), q, u, w] 50) :: .blk g (.cells [ad] 167) :: .app q 130 :: .app u 132 :: .app w 52 :: .app ae 52 :: R))) {r : (PR (Ao × (List Ae)) Int)} (H : F4 n k av a b l o p h a4 a2 = some r), CaO cfg 167 [(.ptr j 0), (.agg [(vI h.f_Op), (vI h.f_W), (vI h.f_A), (vI h.f_B), ae]), (.ptr g 0), (vI a2)] σ (J6 j e g a b q u w a8 R r) := by
  intro k
  induction k with
  | zero => intro j e g av a b l o p h a4 a2 q u w a8 ae ad R σ b8 b9 ba bb al aw hp r H; rw [F4] at H; cases H
  | succ k ihR =>
    intro j e g av a b l o p h a4 a2 q u w a8 ae ad R σ b8 b9 ba bb al aw hp r H
    rw [F4] at H
    refine CaO.enterL (G := [(0, (.ptr j 0)), (1, (.agg [(vI h.f_Op), (vI h.f_W), (vI h.f_A), (vI h.f_B), ae])), (2, (.ptr g 0)), (3, (vI a2))]) Tryz.func167 rfl rfl rfl rfl ?_
    refine Ac ?_
    refine Aa ?_
    refine Cb hp rfl (by exact on rfl (on rfl (on rfl (on rfl (on al.isOne on0))))) rfl rfl rfl rfl rfl ?_
    intro y cm bp
    refine Cs (z := [(vI 0), (vI 0), (vI 0), (vI 0), A5]) bp rfl rfl rfl rfl rfl ?_
    intro a0 cn bq
    refine Ab ?_
    refine Ac ?_
    refine Ac ?_
    refine Aa ?_
    refine V rfl ?_
    refine V rfl ?_
    refine Ab ?_
    refine Bb ?_
    obtain ⟨ax, bc, H⟩ := bind_some H
    refine A4 (J := _) (D8 (fl rfl) (Cw (f := (fun m (i : (Int × (List Ae) × (List Ao)) × (A × A)) => Im n (F4 n k) av a b l o p a2 m i.1.1 i.1.2.1 i.1.2.2)) (G := (fun (i : (Int × (List Ae) × (List Ao)) × (A × A)) => ([(0, (.ptr j 0)), (2, (.ptr g 0)), (5, (.ptr y 0)), (8, (.ptr a0 0)), (9, (vI a2)), (10, (vI i.1.1))] : List (Nat × A)))) (I := (fun (i : (Int × (List Ae) × (List Ao)) × (A × A)) (s : St) => Sl A0 i.2.1 i.1.2.1 ∧ Sl Cm i.2.2 i.1.2.2 ∧ Hp s (C0 j a8 (.blk e (.cells [(vS a), (vS b), q, u, w] 50) :: .blk g (.cells [i.2.1] 167) :: .blk y (.cells [(vI h.f_Op), (vI h.f_W), (vI h.f_A), (vI h.f_B), i.2.2] 52) :: .blk a0 (.cells [(vI 0), (vI 0), (vI 0), (vI 0), A5] 52) :: .app q 130 :: .app u 132 :: .app w 52 :: .app i.2.2 52 :: R)))) (J := (fun (v : LR ((List Ae) × (List Ao)) (PR (Ao × (List Ae)) Int)) (x : X) (φ : Fr) (s : St) => match v with | .out (ay, az) => x = (.exit 0) ∧ (∃ (a9 a5 : A), Sl A0 a9 ay ∧ Sl Cm a5 az ∧ Hp s (.blk g (.cells [a9] 167) :: .blk y (.cells [(vI h.f_Op), (vI h.f_W), (vI h.f_A), (vI h.f_B), a5] 52) :: .blk a0 (.cells [(vI 0), (vI 0), (vI 0), (vI 0), A5] 52) :: (C0 j a8 (.blk e (.cells [(vS a), (vS b), q, u, w] 50) :: .app a5 52 :: .app q 130 :: .app u 132 :: .app w 52 :: R))) ∧ Fl [(2, (.ptr g 0)), (5, (.ptr y 0)), (8, (.ptr a0 0))] φ) | .ret r => FinR cfg Tryz.f167 (J6 j e g a b q u w a8 R r) x φ s)) (fun _ => rfl) ?_ n ((0, a4, h.f_Kids), (ad, ae)) _ ax ⟨aw, al, (Hp.pick bq 16 [2, 3, 4, 5, 6, 7, 8, 9, 10, 11, 12, 13, 14, 15, 1, 0] rfl)⟩ bc)) ?_
    {
    rintro m ⟨⟨a1, br, bs⟩, ⟨bt, bu⟩⟩ c6 v ⟨af, b0, am⟩ H ih
    change Im n (F4 n k) av a b l o p a2 (m + 1) a1 br bs = some v at H
    rw [Im] at H
    change Ec _ _ _ [(0, (.ptr j 0)), (2, (.ptr g 0)), (5, (.ptr y 0)), (8, (.ptr a0 0)), (9, (vI a2)), (10, (vI a1))] c6 _
    refine Ac ?_
    refine Aa ?_
    refine V rfl ?_
    refine Ab ?_
    refine Ac ?_
    refine An (t := (decide (a1 < a2))) rfl (fun aa => ?_) (fun aa => ?_)
    {
    have H := Au aa H
    refine A7 ?_
    refine Ac ?_
    refine Bb ?_
    obtain ⟨b1, bd, H⟩ := bind_some H
    refine A4 (J := (fun (v : LR ((List Ae) × (List Ao)) (PR (Ao × (List Ae)) Int)) (x : X) (φ : Fr) (s : St) => match v with | .out (ag, ah) => x = .normal ∧ (∃ (ab a6 : A), Sl A0 ab ag ∧ Sl Cm a6 ah ∧ Hp s (C0 j a8 (.blk e (.cells [(vS a), (vS b), q, u, w] 50) :: .blk g (.cells [ab] 167) :: .blk y (.cells [(vI h.f_Op), (vI h.f_W), (vI h.f_A), (vI h.f_B), a6] 52) :: .blk a0 (.cells [(vI 0), (vI 0), (vI 0), (vI 0), A5] 52) :: .app q 130 :: .app u 132 :: .app w 52 :: .app a6 52 :: R)) ∧ Fl [(0, (.ptr j 0)), (2, (.ptr g 0)), (5, (.ptr y 0)), (8, (.ptr a0 0)), (9, (vI a2)), (10, (vI a1))] φ) | .ret r => FinR cfg Tryz.f167 (J6 j e g a b q u w a8 R r) x φ s) b1) ?_ ?_
    {
    have H := bd
    refine C5 (by kernel_rfl) ?_
    refine Az rfl rfl rfl rfl rfl rfl ?_
    refine Az (Ag am 14 rfl rfl rfl rfl) rfl rfl rfl rfl rfl ?_
    refine Az rfl rfl rfl rfl rfl rfl ?_
    refine Az rfl rfl rfl rfl rfl rfl ?_
    obtain ⟨bv, an, H⟩ := bind_some H
    rcases bv with b2 | co
    rotate_left
    {
    refine Bn (Bj af (Hp.pick am 14 [13, 0, 1, 2, 3, 4, 5, 6, 7, 8, 9, 10, 11, 12] rfl) an) rfl rfl rfl rfl rfl (by kernel_rfl) ?_
    intro c7 be
    obtain rfl := so H
    exact Bm (C := cfg) (fn := Tryz.f167) ⟨rfl, (Hp.pick be 19 [] rfl)⟩}
    refine Bk (CaO.val (Bj af (Hp.pick am 14 [13, 0, 1, 2, 3, 4, 5, 6, 7, 8, 9, 10, 11, 12] rfl) an)) rfl rfl rfl rfl rfl (by obtain ⟨bw, bx⟩ := b2; rintro _ bf ⟨bz, b3, rfl, ai, b4, a3⟩; exact (Ad rfl (Ad rfl (B7 rfl (Ag a3 14 rfl rfl rfl rfl) (Ad rfl A6))))) ?_
    obtain ⟨bw, bx⟩ := b2
    rintro _ bf ⟨bz, b3, rfl, ai, b4, a3⟩
    obtain ⟨c0, ao, H⟩ := bind_some H
    rcases c0 with d | cp
    rotate_left
    {
    refine Bn (gr_term_ok ihR b8 b9 ba bb ai (Hp.pick a3 19 [1, 2, 3, 4, 5, 6, 7, 8, 9, 10, 11, 12, 13, 16, 17, 18, 0, 14, 15] rfl) ao) rfl rfl rfl rfl rfl (by kernel_rfl) ?_
    intro c8 bg
    obtain rfl := so H
    exact Bm (C := cfg) (fn := Tryz.f167) ⟨rfl, (Hp.pick bg 4 [] rfl)⟩}
    refine Bk (CaO.val (gr_term_ok ihR b8 b9 ba bb ai (Hp.pick a3 19 [1, 2, 3, 4, 5, 6, 7, 8, 9, 10, 11, 12, 13, 16, 17, 18, 0, 14, 15] rfl) ao)) rfl rfl rfl rfl rfl (by rintro _ bh ⟨a7, rfl, b5, ac⟩; exact (Ad rfl (Ad rfl (B7 rfl (Ag ac 18 rfl rfl rfl rfl) (Ad rfl A6))))) ?_
    rintro _ bh ⟨a7, rfl, b5, ac⟩
    refine A9 (Cy (Am rfl rfl rfl rfl rfl Bc) rfl (Ak rfl rfl rfl) Tryz.underlying48 rfl rfl rfl rfl (by decide) rfl) rfl rfl rfl rfl (Ar rfl (Ar rfl A8)) ?_
    have c1 : Sl Cm (.sl 5 [(vI d.f_Op), (vI d.f_W), (vI d.f_A), (vI d.f_B), a7] .ex) ([d] : List Ao) := .inr ⟨_, _, rfl, (.cons (c := [(vI d.f_Op), (vI d.f_W), (vI d.f_A), (vI d.f_B), a7]) (rTTerm_of ⟨a7, rfl, b5⟩) .nil)⟩
    have bi := Dv ac 52 5 [(vI d.f_Op), (vI d.f_W), (vI d.f_A), (vI d.f_B), a7]
    obtain ⟨cq, b6, H⟩ := bind_some H
    refine Js bi 21 rfl b0 (New.of c1) b6 rfl rfl rfl rfl rfl rfl rfl Tryz.underlying48 rfl Tryz.underlying48 rfl rfl rfl rfl rfl rfl rfl rfl (fun a' σ' h' hp' => ((Ad rfl (Ad rfl (Ad rfl (Bd (by kernel_rfl) (Ad rfl A6))))))) ?_
    intro c2 c9 aj bj
    refine A9 rfl rfl rfl rfl rfl (Ar rfl (Ar rfl (Ar rfl A8))) ?_
    refine Gm bj 19 rfl (Af (aj.cells) rfl rfl (by exact on aj.isOne on0) rfl rfl) rfl rfl rfl rfl rfl (fun σ' hp' => ((Ad rfl (Ad rfl (Ad rfl (Ad rfl (Bd (by kernel_rfl) (Ad rfl A6)))))))) ?_
    intro ca bk
    refine Dh ?_
    obtain rfl := so H
    exact And.intro rfl ⟨b3, c2, b4, aj, (Hp.pick bk 21 [1, 4, 5, 6, 7, 8, 9, 10, 11, 12, 13, 14, 2, 18, 19, 20, 15, 16, 17] rfl), (fl rfl)⟩}
    {
    rcases b1 with ⟨ag, ah⟩ | cr
    {
    intro x cb cc hJ
    obtain ⟨rfl, ab, a6, c3, c4, bl, bm⟩ := hJ
    refine Be (F := [(0, (.ptr j 0)), (2, (.ptr g 0)), (5, (.ptr y 0)), (8, (.ptr a0 0)), (9, (vI a2)), (10, (vI a1))]) bm ?_
    refine Aa ?_
    refine V rfl ?_
    refine V rfl ?_
    refine Ab ?_
    exact Be (fl rfl) (ih (((IntKind.wrap .i64 (a1 + 1)), ag, ah), (ab, a6)) _ ⟨c3, c4, bl⟩ H)}
    {
    intro x cd ce hJ
    obtain rfl := so H
    cases x <;> first | exact hJ | exact hJ.elim}}}
    {
    have H := Av aa H
    refine D9 ?_
    obtain rfl := so H
    exact And.intro rfl ⟨bt, bu, af, b0, (Hp.pick am 20 [13, 14, 15, 0, 1, 2, 3, 4, 5, 6, 7, 8, 9, 10, 11, 12, 19, 16, 17, 18] rfl), (fl rfl)⟩}}
    {
    rcases ax with ⟨ay, az⟩ | cs
    {
    intro x cf cg hJ
    obtain ⟨rfl, a9, a5, ak, b7, ap, bn⟩ := hJ
    refine Be (F := [(2, (.ptr g 0)), (5, (.ptr y 0)), (8, (.ptr a0 0))]) bn ?_
    refine Ac ?_
    refine Aa ?_
    refine V rfl ?_
    obtain ⟨c5, aq, H⟩ := bind_some H
    rcases c5 with ct | cu
    {
    refine Ai (Gk ak ap aq) rfl rfl rfl rfl ?_
    rintro _ ch ⟨rfl, ar⟩
    refine Ab ?_
    refine Ac ?_
    refine Aa ?_
    refine W (Ag ar 1 rfl rfl rfl rfl) rfl ?_
    refine Al ar 2 rfl (Af rfl rfl rfl (by exact on rfl (on rfl (on rfl (on rfl (on b7.isOne on0))))) rfl rfl) rfl rfl rfl rfl rfl ?_
    intro ci au
    refine Ab ?_
    obtain rfl := so H
    refine Aw ?_
    refine Fin.mk' (Bf au 2 rfl rfl rfl rfl) ?_
    exact ⟨a5, a9, rfl, b7, ak, (Hp.pick au 17 [3, 15, 0, 16, 4, 5, 6, 7, 8, 9, 10, 11, 12, 13, 14] rfl)⟩}
    {
    refine Aj (Gk ak ap aq) rfl rfl ?_
    intro cj bo
    obtain rfl := so H
    exact Fin.pan (C := cfg) (fn := Tryz.f167) ⟨rfl, (Hp.pick bo 19 [] rfl)⟩}}
    {
    intro x ck cl hJ
    obtain rfl := so H
    cases x <;> first | exact hJ | exact hJ.elim}}

theorem Fs {n : Nat} {h : Nat} {c : Nat} {i : Nat} {s : TRd} {a : ByteArray} {b : ByteArray} {d : (List Da)} {e : (List B5)} {f : (List Ao)} {g : Ao} {j : (List Ae)} {t : Int} {k : A} {l : A} {m : A} {p : (List A)} {q : A} {o : A} {R : List Res} {σ : St} (w : Sl rTArg k d) (x : Sl Hm l e) (y : Sl Cm m f) (z : E2 (.ptr c 0) s p) (u : Sl Cm q g.f_Kids) (v : Sl A0 o j) (hp : Hp σ (C0 h p (.blk c (.cells [(vS a), (vS b), k, l, m] 50) :: .blk i (.cells [o] 167) :: .app k 130 :: .app l 132 :: .app m 52 :: .app q 52 :: R))) {r : (PR (Ao × (List Ae)) Int)} (H : gr_terms n s a b d e f g j t = some r) : CaO cfg 167 [(.ptr h 0), (.agg [(vI g.f_Op), (vI g.f_W), (vI g.f_A), (vI g.f_B), q]), (.ptr i 0), (vI t)] σ (J6 h c i a b k l m p R r) := gr_terms_rec_ok n w x y z u v hp H

theorem gr_effect_rec_ok {n : Nat} : ∀ (k : Nat) {g : Nat} {e : Nat} {c4 : TRd} {a : ByteArray} {b : ByteArray} {o : (List Da)} {p : (List B5)} {q : (List Ao)} {af : Ae} {a4 : A} {a5 : A} {a6 : A} {a7 : (List A)} {c5 : A} {R : List Res} {σ : St} (u : Sl rTArg a4 o) (w : Sl Hm a5 p) (y : Sl Cm a6 q) (a0 : E2 (.ptr e 0) c4 a7) (aw : Sl A0 c5 af.f_Kids) (hp : Hp σ (C0 g a7 (.blk e (.cells [(vS a), (vS b), a4, a5, a6] 50) :: .app a4 130 :: .app a5 132 :: .app a6 52 :: R))) {r : (PR Ao Int)} (H : Fe n k c4 a b o p q af = some r), CaO cfg 124 [(.ptr g 0), (.agg [(vI af.f_Kind), (vS af.f_Word), (vI af.f_Num), c5])] σ (Jl g e a b a4 a5 a6 a7 R r) := by
  intro k
  induction k with
  | zero => intro g e c4 a b o p q af a4 a5 a6 a7 c5 R σ u w y a0 aw hp r H; rw [Fe] at H; cases H
  | succ k ihR =>
    intro g e c4 a b o p q af a4 a5 a6 a7 c5 R σ u w y a0 aw hp r H
    rw [Fe] at H
    refine CaO.enterL (G := [(0, (.ptr g 0)), (1, (.agg [(vI af.f_Kind), (vS af.f_Word), (vI af.f_Num), c5]))]) Tryz.func124 rfl rfl rfl rfl ?_
    refine Ac ?_
    refine Aa ?_
    refine Cb hp rfl (by exact on rfl (on rfl (on rfl (on aw.isOne on0)))) rfl rfl rfl rfl rfl ?_
    intro kp io f3
    refine Cs (z := [(vI 0), (vI 0), (vI 0), (vI 0), A5]) f3 rfl rfl rfl rfl rfl ?_
    intro a2 ip ax
    refine Ab ?_
    refine Ac ?_
    refine Aa ?_
    refine W (Ag ax 1 rfl rfl rfl rfl) rfl ?_
    obtain ⟨f4, b4, H⟩ := bind_some H
    rcases f4 with kq | iq
    {
    refine Ai (Bo aw ax b4) rfl rfl rfl rfl ?_
    rintro _ ir ⟨h, kr, rfl, ez, c6⟩
    refine V rfl ?_
    refine Ab ?_
    refine Ac ?_
    refine Ac ?_
    refine Aa ?_
    refine V rfl ?_
    obtain ⟨f5, b5, H⟩ := bind_some H
    rcases f5 with f6 | it
    {
    refine Ai (A1 ez c6 b5) rfl rfl rfl rfl ?_
    obtain ⟨ag, ks⟩ := f6
    rintro _ iu ⟨kt, rfl, a3, j⟩
    refine Ab ?_
    refine Bb ?_
    refine Ac ?_
    refine Aa ?_
    refine W (B9 rfl (Bi _ _)) rfl ?_
    refine V rfl ?_
    refine Ab ?_
    refine An (t := (decide (ag = (ByteArray.mk #[115, 101, 116])))) rfl (fun ay => ?_) (fun ay => ?_)
    {
    have H := Au ay H
    refine Ac ?_
    refine Aa ?_
    refine V rfl ?_
    obtain ⟨f7, b6, H⟩ := bind_some H
    rcases f7 with f8 | iv
    {
    refine Ai (Bj a3 j b6) rfl rfl rfl rfl ?_
    obtain ⟨ku, kv⟩ := f8
    rintro _ iw ⟨kw, gq, rfl, f0, f1, c7⟩
    obtain ⟨f9, b7, H⟩ := bind_some H
    rcases f9 with kx | ix
    {
    refine Ai (Bo f0 c7 b7) rfl rfl rfl rfl ?_
    rintro _ iy ⟨gr, ky, rfl, f2, c8⟩
    refine V rfl ?_
    refine Ab ?_
    refine Ac ?_
    refine Aa ?_
    refine V rfl ?_
    obtain ⟨fa, b8, H⟩ := bind_some H
    rcases fa with fb | iz
    {
    refine Ai (A1 f2 c8 b8) rfl rfl rfl rfl ?_
    obtain ⟨gs, kz⟩ := fb
    rintro _ j0 ⟨l0, rfl, b9, fc⟩
    refine V rfl ?_
    refine Ab ?_
    refine Ac ?_
    refine Aa ?_
    refine Cs (z := [(vI 0), (vI 0), (vI 0), (vI 0), A5]) fc rfl rfl rfl rfl rfl ?_
    intro c9 j1 aa
    refine Ab ?_
    refine Ac ?_
    refine Ac ?_
    refine Aa ?_
    refine V rfl ?_
    refine W (B9 rfl (Bi _ _)) rfl ?_
    refine Ab ?_
    obtain ⟨ca, dn, H⟩ := bind_some H
    refine A4 (J := (fun (v : LR (Int × Int × Int × Int × (List Ao)) (PR Ao Int)) (x : X) (φ : Fr) (s : St) => match v with | .out (cb, cc, cd, ce, cf) => x = .normal ∧ (∃ (ah : A), Sl Cm ah cf ∧ Hp s (C0 g a7 (.blk e (.cells [(vS a), (vS b), a4, a5, a6] 50) :: .blk a2 (.cells [(vI 0), (vI 0), (vI 0), (vI 0), A5] 52) :: .blk h (.cells [gq] 167) :: .blk c9 (.cells [(vI cb), (vI cc), (vI cd), (vI ce), ah] 52) :: .app a4 130 :: .app a5 132 :: .app a6 52 :: .app ah 52 :: R)) ∧ Fl [(0, (.ptr g 0)), (4, (.ptr a2 0)), (5, (.ptr h 0)), (8, (.ptr c9 0))] φ) | .ret r => FinR cfg Tryz.f124 (Jl g e a b a4 a5 a6 a7 R r) x φ s) ca) ?_ ?_
    {
    have H := dn
    refine An (t := (decide (gs = (ByteArray.mk #[102, 108, 97, 103])))) rfl (fun ai => ?_) (fun ai => ?_)
    {
    have H := Au ai H
    refine Ac ?_
    refine Aa ?_
    refine V rfl ?_
    refine V rfl ?_
    obtain ⟨fd, ba, H⟩ := bind_some H
    rcases fd with fe | j2
    {
    refine Ai (gr_flag_ok u w y a0 b9 (Hp.pick aa 21 [5, 6, 7, 8, 9, 10, 11, 12, 13, 14, 15, 16, 17, 1, 18, 19, 20, 0, 2, 3, 4] rfl) ba) rfl rfl rfl rfl ?_
    obtain ⟨j3, j4⟩ := fe
    rintro _ gv ⟨j5, rfl, cg, dp⟩
    refine W (Bh (Am rfl rfl rfl rfl rfl (Am rfl rfl rfl rfl rfl Bc)) rfl (Ak rfl rfl (Ak rfl rfl rfl)) Tryz.underlying52 rfl rfl) rfl ?_
    refine Al dp 17 rfl (Af rfl rfl rfl rfl rfl rfl) rfl rfl rfl rfl rfl ?_
    intro gw bb
    refine Ab ?_
    refine Aa ?_
    refine V rfl ?_
    obtain ⟨ff, bc, H⟩ := bind_some H
    rcases ff with j6 | j7
    {
    refine Ai (Gk cg (Hp.pick bb 3 [2, 0, 1] rfl) bc) rfl rfl rfl rfl ?_
    rintro _ gx ⟨rfl, dq⟩
    refine Ab ?_
    obtain rfl := so H
    exact And.intro rfl ⟨A5, Sl.nil, (Hp.pick (As dq 52) 22 [2, 4, 5, 6, 7, 8, 9, 10, 11, 12, 13, 14, 3, 20, 19, 18, 15, 16, 17, 0] rfl), (fl rfl)⟩}
    {
    refine Aj (Gk cg (Hp.pick bb 3 [2, 0, 1] rfl) bc) rfl rfl ?_
    intro gy dr
    obtain rfl := so H
    exact Fin.pan (C := cfg) (fn := Tryz.f124) ⟨rfl, (Hp.pick dr 20 [] rfl)⟩}}
    {
    refine Aj (gr_flag_ok u w y a0 b9 (Hp.pick aa 21 [5, 6, 7, 8, 9, 10, 11, 12, 13, 14, 15, 16, 17, 1, 18, 19, 20, 0, 2, 3, 4] rfl) ba) rfl rfl ?_
    intro gz ds
    obtain rfl := so H
    exact Fin.pan (C := cfg) (fn := Tryz.f124) ⟨rfl, (Hp.pick ds 4 [] rfl)⟩}}
    {
    have H := Av ai H
    refine Aa ?_
    iterate 5 refine V rfl ?_
    obtain ⟨ch, ci, cj, ck, cl, cm, cn, co, cp, cq, cr, rfl, aj, cs, ct, cu, cv, cw, cx, cy, cz, d0, d1⟩ := a0
    refine W (Ag aa 5 rfl rfl rfl rfl) rfl ?_
    refine V rfl ?_
    obtain ⟨fg, bd, H⟩ := bind_some H
    rcases fg with j8 | j9
    {
    refine Ai (Ef aj aa bd) rfl rfl rfl rfl ?_
    rintro _ h0 ⟨rfl, be⟩
    refine V rfl ?_
    obtain ⟨fh, bf, H⟩ := bind_some H
    rcases fh with fi | ja
    {
    refine Ai (gr_register_ok u w y ⟨ch, ci, cj, ck, cl, cm, cn, co, cp, cq, cr, rfl, aj, cs, ct, cu, cv, cw, cx, cy, cz, d0, d1⟩ b9 (Hp.pick be 21 [5, 6, 7, 8, 9, 10, 11, 12, 13, 14, 15, 16, 17, 1, 18, 19, 20, 0, 2, 3, 4] rfl) bf) rfl rfl rfl rfl ?_
    obtain ⟨jb, jc⟩ := fi
    rintro _ h1 ⟨fj, jd, rfl, d2, je, dt⟩
    refine Al dt 18 rfl (Af rfl rfl rfl (by exact on rfl (on rfl (on rfl (on rfl (on d2.isOne on0))))) rfl rfl) rfl rfl rfl rfl rfl ?_
    intro h2 du
    refine Ab ?_
    obtain rfl := so H
    exact And.intro rfl ⟨fj, d2, (Hp.pick du 22 [0, 4, 5, 6, 7, 8, 9, 10, 11, 12, 13, 14, 1, 20, 19, 18, 15, 16, 17, 3] rfl), (fl rfl)⟩}
    {
    refine Aj (gr_register_ok u w y ⟨ch, ci, cj, ck, cl, cm, cn, co, cp, cq, cr, rfl, aj, cs, ct, cu, cv, cw, cx, cy, cz, d0, d1⟩ b9 (Hp.pick be 21 [5, 6, 7, 8, 9, 10, 11, 12, 13, 14, 15, 16, 17, 1, 18, 19, 20, 0, 2, 3, 4] rfl) bf) rfl rfl ?_
    intro h3 dv
    obtain rfl := so H
    exact Fin.pan (C := cfg) (fn := Tryz.f124) ⟨rfl, (Hp.pick dv 4 [] rfl)⟩}}
    {
    refine Aj (Ef aj aa bd) rfl rfl ?_
    intro h4 dw
    obtain rfl := so H
    exact Fin.pan (C := cfg) (fn := Tryz.f124) ⟨rfl, (Hp.pick dw 21 [] rfl)⟩}}}
    {
    rcases ca with ⟨cb, cc, cd, ce, cf⟩ | jf
    {
    intro x h5 h6 hJ
    obtain ⟨rfl, ah, d3, ak, dx⟩ := hJ
    refine Be (F := [(0, (.ptr g 0)), (4, (.ptr a2 0)), (5, (.ptr h 0)), (8, (.ptr c9 0))]) dx ?_
    refine Ac ?_
    refine Aa ?_
    refine V rfl ?_
    refine W (Ag ak 15 rfl rfl rfl rfl) rfl ?_
    refine V rfl ?_
    obtain ⟨fk, bg, H⟩ := bind_some H
    rcases fk with fm | jg
    {
    refine Ai (Fs u w y a0 d3 f1 (Hp.pick ak 20 [0, 1, 2, 3, 4, 5, 6, 7, 8, 9, 10, 11, 12, 14, 16, 17, 18, 19, 13, 15] rfl) bg) rfl rfl rfl rfl ?_
    obtain ⟨jh, ji⟩ := fm
    rintro _ h7 ⟨fo, jj, rfl, d4, jk, dy⟩
    refine Al dy 18 rfl (Af rfl rfl rfl (by exact on rfl (on rfl (on rfl (on rfl (on d4.isOne on0))))) rfl rfl) rfl rfl rfl rfl rfl ?_
    intro h8 bh
    refine Ab ?_
    obtain rfl := so H
    refine Aw ?_
    refine Fin.mk' (Bf bh 18 rfl rfl rfl rfl) ?_
    exact ⟨fo, rfl, d4, (Hp.pick bh 20 [0, 1, 3, 4, 5, 6, 7, 8, 9, 10, 11, 12, 13, 14, 15, 16, 17] rfl)⟩}
    {
    refine Aj (Fs u w y a0 d3 f1 (Hp.pick ak 20 [0, 1, 2, 3, 4, 5, 6, 7, 8, 9, 10, 11, 12, 14, 16, 17, 18, 19, 13, 15] rfl) bg) rfl rfl ?_
    intro h9 dz
    obtain rfl := so H
    exact Fin.pan (C := cfg) (fn := Tryz.f124) ⟨rfl, (Hp.pick dz 2 [] rfl)⟩}}
    {
    intro x ha hb hJ
    obtain rfl := so H
    cases x <;> first | exact hJ | exact hJ.elim}}}
    {
    refine Aj (A1 f2 c8 b8) rfl rfl ?_
    intro hc e0
    obtain rfl := so H
    exact Fin.pan (C := cfg) (fn := Tryz.f124) ⟨rfl, (Hp.pick e0 19 [] rfl)⟩}}
    {
    refine Aj (Bo f0 c7 b7) rfl rfl ?_
    intro hd e1
    obtain rfl := so H
    exact Fin.pan (C := cfg) (fn := Tryz.f124) ⟨rfl, (Hp.pick e1 19 [] rfl)⟩}}
    {
    refine Aj (Bj a3 j b6) rfl rfl ?_
    intro he e2
    obtain rfl := so H
    exact Fin.pan (C := cfg) (fn := Tryz.f124) ⟨rfl, (Hp.pick e2 18 [] rfl)⟩}}
    {
    have H := Av ay H
    refine Ac ?_
    refine Aa ?_
    refine W (B9 rfl (Bi _ _)) rfl ?_
    refine V rfl ?_
    refine Ab ?_
    refine An (t := (decide (ag = (ByteArray.mk #[115, 116])))) rfl (fun al => ?_) (fun al => ?_)
    {
    have H := Au al H
    refine Ac ?_
    refine Aa ?_
    refine V rfl ?_
    refine V rfl ?_
    obtain ⟨fp, bi, H⟩ := bind_some H
    rcases fp with fq | jl
    {
    refine Ai (Bg a3 j bi) rfl rfl rfl rfl ?_
    obtain ⟨jm, jn⟩ := fq
    rintro _ hf ⟨jo, rfl, d5, bj⟩
    refine W (Bh (Am rfl rfl rfl rfl rfl (Am rfl rfl rfl rfl rfl Bc)) rfl (Ak rfl rfl (Ak rfl rfl rfl)) Tryz.underlying52 rfl rfl) rfl ?_
    refine V rfl ?_
    obtain ⟨fr, bk, H⟩ := bind_some H
    rcases fr with fs | jp
    {
    refine Ai (Fs u w y a0 Sl.nil d5 (Hp.pick (As bj 52) 20 [4, 5, 6, 7, 8, 9, 10, 11, 12, 13, 14, 15, 16, 1, 17, 18, 19, 0, 2, 3] rfl) bk) rfl rfl rfl rfl ?_
    obtain ⟨jq, jr⟩ := fs
    rintro _ hg ⟨ft, js, rfl, d6, jt, e3⟩
    refine Al e3 18 rfl (Af rfl rfl rfl (by exact on rfl (on rfl (on rfl (on rfl (on d6.isOne on0))))) rfl rfl) rfl rfl rfl rfl rfl ?_
    intro hh bl
    refine Ab ?_
    obtain rfl := so H
    refine Aw ?_
    refine Fin.mk' (Bf bl 18 rfl rfl rfl rfl) ?_
    exact ⟨ft, rfl, d6, (Hp.pick bl 20 [0, 1, 3, 4, 5, 6, 7, 8, 9, 10, 11, 12, 13, 14, 15, 16, 17] rfl)⟩}
    {
    refine Aj (Fs u w y a0 Sl.nil d5 (Hp.pick (As bj 52) 20 [4, 5, 6, 7, 8, 9, 10, 11, 12, 13, 14, 15, 16, 1, 17, 18, 19, 0, 2, 3] rfl) bk) rfl rfl ?_
    intro hi e4
    obtain rfl := so H
    exact Fin.pan (C := cfg) (fn := Tryz.f124) ⟨rfl, (Hp.pick e4 2 [] rfl)⟩}}
    {
    refine Aj (Bg a3 j bi) rfl rfl ?_
    intro hj e5
    obtain rfl := so H
    exact Fin.pan (C := cfg) (fn := Tryz.f124) ⟨rfl, (Hp.pick e5 18 [] rfl)⟩}}
    {
    have H := Av al H
    refine Ac ?_
    refine Aa ?_
    refine W (B9 rfl (Bi _ _)) rfl ?_
    refine V rfl ?_
    refine Ab ?_
    refine An (t := (decide (ag = (ByteArray.mk #[106, 117, 109, 112])))) rfl (fun am => ?_) (fun am => ?_)
    {
    have H := Au am H
    refine Ac ?_
    refine Aa ?_
    refine V rfl ?_
    refine W (Bh (Am rfl rfl rfl rfl rfl Bc) rfl (Ak rfl rfl rfl) Tryz.underlying52 rfl rfl) rfl ?_
    refine V rfl ?_
    obtain ⟨fu, bm, H⟩ := bind_some H
    rcases fu with fv | ju
    {
    refine Ai (Fs u w y a0 Sl.nil a3 (Hp.pick (As j 52) 20 [4, 5, 6, 7, 8, 9, 10, 11, 12, 13, 14, 15, 16, 1, 17, 18, 19, 0, 2, 3] rfl) bm) rfl rfl rfl rfl ?_
    obtain ⟨jv, jw⟩ := fv
    rintro _ hk ⟨fw, jx, rfl, d7, jy, e6⟩
    refine Al e6 18 rfl (Af rfl rfl rfl (by exact on rfl (on rfl (on rfl (on rfl (on d7.isOne on0))))) rfl rfl) rfl rfl rfl rfl rfl ?_
    intro hl bn
    refine Ab ?_
    obtain rfl := so H
    refine Aw ?_
    refine Fin.mk' (Bf bn 18 rfl rfl rfl rfl) ?_
    exact ⟨fw, rfl, d7, (Hp.pick bn 20 [0, 1, 3, 4, 5, 6, 7, 8, 9, 10, 11, 12, 13, 14, 15, 16, 17] rfl)⟩}
    {
    refine Aj (Fs u w y a0 Sl.nil a3 (Hp.pick (As j 52) 20 [4, 5, 6, 7, 8, 9, 10, 11, 12, 13, 14, 15, 16, 1, 17, 18, 19, 0, 2, 3] rfl) bm) rfl rfl ?_
    intro hm e7
    obtain rfl := so H
    exact Fin.pan (C := cfg) (fn := Tryz.f124) ⟨rfl, (Hp.pick e7 2 [] rfl)⟩}}
    {
    have H := Av am H
    refine Ac ?_
    refine Aa ?_
    refine W (B9 rfl (Bi _ _)) rfl ?_
    refine V rfl ?_
    refine Ab ?_
    refine An (t := (decide (ag = (ByteArray.mk #[116, 114, 97, 112])))) rfl (fun an => ?_) (fun an => ?_)
    {
    have H := Au an H
    refine Ac ?_
    refine Aa ?_
    refine V rfl ?_
    refine V rfl ?_
    obtain ⟨fx, bo, H⟩ := bind_some H
    rcases fx with fy | jz
    {
    refine Ai (Bg a3 j bo) rfl rfl rfl rfl ?_
    obtain ⟨k0, k1⟩ := fy
    rintro _ hn ⟨k2, rfl, d8, bp⟩
    refine W (Bh (Am rfl rfl rfl rfl rfl (Am rfl rfl rfl rfl rfl Bc)) rfl (Ak rfl rfl (Ak rfl rfl rfl)) Tryz.underlying52 rfl rfl) rfl ?_
    refine V rfl ?_
    obtain ⟨fz, bq, H⟩ := bind_some H
    rcases fz with g0 | k3
    {
    refine Ai (Fs u w y a0 Sl.nil d8 (Hp.pick (As bp 52) 20 [4, 5, 6, 7, 8, 9, 10, 11, 12, 13, 14, 15, 16, 1, 17, 18, 19, 0, 2, 3] rfl) bq) rfl rfl rfl rfl ?_
    obtain ⟨k4, k5⟩ := g0
    rintro _ ho ⟨g1, k6, rfl, d9, k7, e8⟩
    refine Al e8 18 rfl (Af rfl rfl rfl (by exact on rfl (on rfl (on rfl (on rfl (on d9.isOne on0))))) rfl rfl) rfl rfl rfl rfl rfl ?_
    intro hq br
    refine Ab ?_
    obtain rfl := so H
    refine Aw ?_
    refine Fin.mk' (Bf br 18 rfl rfl rfl rfl) ?_
    exact ⟨g1, rfl, d9, (Hp.pick br 20 [0, 1, 3, 4, 5, 6, 7, 8, 9, 10, 11, 12, 13, 14, 15, 16, 17] rfl)⟩}
    {
    refine Aj (Fs u w y a0 Sl.nil d8 (Hp.pick (As bp 52) 20 [4, 5, 6, 7, 8, 9, 10, 11, 12, 13, 14, 15, 16, 1, 17, 18, 19, 0, 2, 3] rfl) bq) rfl rfl ?_
    intro hr e9
    obtain rfl := so H
    exact Fin.pan (C := cfg) (fn := Tryz.f124) ⟨rfl, (Hp.pick e9 2 [] rfl)⟩}}
    {
    refine Aj (Bg a3 j bo) rfl rfl ?_
    intro hs ea
    obtain rfl := so H
    exact Fin.pan (C := cfg) (fn := Tryz.f124) ⟨rfl, (Hp.pick ea 18 [] rfl)⟩}}
    {
    have H := Av an H
    refine Ac ?_
    refine Aa ?_
    refine W (B9 rfl (Bi _ _)) rfl ?_
    refine V rfl ?_
    refine Ab ?_
    refine An (t := (decide (ag = (ByteArray.mk #[115, 121, 115])))) rfl (fun ao => ?_) (fun ao => ?_)
    {
    have H := Au ao H
    refine Ac ?_
    refine Aa ?_
    refine V rfl ?_
    refine W (Bh (Am rfl rfl rfl rfl rfl Bc) rfl (Ak rfl rfl rfl) Tryz.underlying52 rfl rfl) rfl ?_
    refine V rfl ?_
    obtain ⟨g2, bs, H⟩ := bind_some H
    rcases g2 with g3 | k8
    {
    refine Ai (Fs u w y a0 Sl.nil a3 (Hp.pick (As j 52) 20 [4, 5, 6, 7, 8, 9, 10, 11, 12, 13, 14, 15, 16, 1, 17, 18, 19, 0, 2, 3] rfl) bs) rfl rfl rfl rfl ?_
    obtain ⟨k9, ka⟩ := g3
    rintro _ ht ⟨g4, kb, rfl, da, kc, eb⟩
    refine Al eb 18 rfl (Af rfl rfl rfl (by exact on rfl (on rfl (on rfl (on rfl (on da.isOne on0))))) rfl rfl) rfl rfl rfl rfl rfl ?_
    intro hu bt
    refine Ab ?_
    obtain rfl := so H
    refine Aw ?_
    refine Fin.mk' (Bf bt 18 rfl rfl rfl rfl) ?_
    exact ⟨g4, rfl, da, (Hp.pick bt 20 [0, 1, 3, 4, 5, 6, 7, 8, 9, 10, 11, 12, 13, 14, 15, 16, 17] rfl)⟩}
    {
    refine Aj (Fs u w y a0 Sl.nil a3 (Hp.pick (As j 52) 20 [4, 5, 6, 7, 8, 9, 10, 11, 12, 13, 14, 15, 16, 1, 17, 18, 19, 0, 2, 3] rfl) bs) rfl rfl ?_
    intro hv ec
    obtain rfl := so H
    exact Fin.pan (C := cfg) (fn := Tryz.f124) ⟨rfl, (Hp.pick ec 2 [] rfl)⟩}}
    {
    have H := Av ao H
    refine Ac ?_
    refine Aa ?_
    refine W (B9 rfl (Bi _ _)) rfl ?_
    refine V rfl ?_
    refine Ab ?_
    refine An (t := (decide (ag = (ByteArray.mk #[119, 104, 101, 110])))) rfl (fun ap => ?_) (fun ap => ?_)
    {
    have H := Au ap H
    refine Ac ?_
    refine Aa ?_
    refine V rfl ?_
    refine V rfl ?_
    obtain ⟨g5, bu, H⟩ := bind_some H
    rcases g5 with g6 | kd
    {
    refine Ai (Bj a3 j bu) rfl rfl rfl rfl ?_
    obtain ⟨ke, g7⟩ := g6
    rintro _ hw ⟨kf, g8, rfl, db, g9, bv⟩
    obtain ⟨ga, bw, H⟩ := bind_some H
    rcases ga with d | kg
    {
    refine Ai (gr_term_ok (@Fs n) u w y a0 db (Hp.pick bv 19 [3, 4, 5, 6, 7, 8, 9, 10, 11, 12, 13, 14, 15, 16, 17, 18, 0, 1, 2] rfl) bw) rfl rfl rfl rfl ?_
    rintro _ hx ⟨ab, rfl, gb, ed⟩
    refine W (Cy (Am rfl rfl rfl rfl rfl Bc) rfl (Ak rfl rfl rfl) Tryz.underlying48 rfl rfl rfl rfl (by decide) rfl) rfl ?_
    have aq : Sl Cm (.sl 5 [(vI d.f_Op), (vI d.f_W), (vI d.f_A), (vI d.f_B), ab] .ex) ([d] : List Ao) := .inr ⟨_, _, rfl, (.cons (c := [(vI d.f_Op), (vI d.f_W), (vI d.f_A), (vI d.f_B), ab]) (rTTerm_of ⟨ab, rfl, gb⟩) .nil)⟩
    have ee := Dv ed 52 5 [(vI d.f_Op), (vI d.f_W), (vI d.f_A), (vI d.f_B), ab]
    refine W (Bh (Am rfl rfl rfl rfl rfl (Am rfl aq.cells rfl rfl rfl Bc)) rfl (Ak rfl rfl (Ak rfl aq.noJunk rfl)) Tryz.underlying52 rfl rfl) rfl ?_
    refine Cs (z := [(vI 0), (vI 0), (vI 0), (vI 0), A5]) ee rfl rfl rfl rfl rfl ?_
    intro a1 hy ef
    refine Al ef 0 rfl (Af rfl rfl rfl (by exact on rfl (on rfl (on rfl (on rfl (on aq.isOne on0))))) rfl rfl) rfl rfl rfl rfl rfl ?_
    intro hz eg
    refine Ab ?_
    refine Ac ?_
    refine Bb ?_
    obtain ⟨dc, eh, H⟩ := bind_some H
    refine A4 (J := _) (D8 (fl rfl) (Cw (f := (fun m (i : ((List Ae) × (List Ao)) × (A × A)) => Iz n (Fe n k) c4 a b o p q m i.1.1 i.1.2)) (G := (fun (i : ((List Ae) × (List Ao)) × (A × A)) => ([(0, (.ptr g 0)), (4, (.ptr a2 0)), (5, (.ptr h 0)), (9, (.ptr a1 0))] : List (Nat × A)))) (I := (fun (i : ((List Ae) × (List Ao)) × (A × A)) (s : St) => Sl A0 i.2.1 i.1.1 ∧ Sl Cm i.2.2 i.1.2 ∧ Hp s (C0 g a7 (.blk e (.cells [(vS a), (vS b), a4, a5, a6] 50) :: .blk a2 (.cells [(vI 0), (vI 0), (vI 0), (vI 0), A5] 52) :: .blk h (.cells [i.2.1] 167) :: .blk a1 (.cells [(vI 37), (vI 0), (vI 0), (vI 0), i.2.2] 52) :: .app a4 130 :: .app a5 132 :: .app a6 52 :: .app i.2.2 52 :: R)))) (J := (fun (v : LR (List Ao) (PR Ao Int)) (x : X) (φ : Fr) (s : St) => match v with | .out dd => x = (.exit 1) ∧ (∃ (ac : A), Sl Cm ac dd ∧ Hp s (.blk a2 (.cells [(vI 0), (vI 0), (vI 0), (vI 0), A5] 52) :: .blk a1 (.cells [(vI 37), (vI 0), (vI 0), (vI 0), ac] 52) :: (C0 g a7 (.blk e (.cells [(vS a), (vS b), a4, a5, a6] 50) :: .app ac 52 :: .app a4 130 :: .app a5 132 :: .app a6 52 :: R))) ∧ Fl [(4, (.ptr a2 0)), (9, (.ptr a1 0))] φ) | .ret r => FinR cfg Tryz.f124 (Jl g e a b a4 a5 a6 a7 R r) x φ s)) (fun _ => rfl) ?_ n ((g7, ([d] : List Ao)), (g8, (.sl 5 [(vI d.f_Op), (vI d.f_W), (vI d.f_A), (vI d.f_B), ab] .ex))) _ dc ⟨g9, aq, (Hp.pick eg 22 [2, 5, 6, 7, 8, 9, 10, 11, 12, 13, 14, 15, 3, 20, 19, 0, 16, 17, 18, 1] rfl)⟩ eh)) ?_
    {
    rintro m ⟨⟨gc, gd⟩, ⟨kh, ge⟩⟩ gt v ⟨az, de, gu⟩ H ih
    change Iz n (Fe n k) c4 a b o p q (m + 1) gc gd = some v at H
    rw [Iz] at H
    change Ec _ _ _ [(0, (.ptr g 0)), (4, (.ptr a2 0)), (5, (.ptr h 0)), (9, (.ptr a1 0))] gt _
    refine Ac ?_
    refine Ac ?_
    refine Aa ?_
    refine V rfl ?_
    obtain ⟨gf, df, H⟩ := bind_some H
    refine A2 rfl rfl rfl rfl (Hl az (Hp.pick gu 15 [14, 0, 1, 2, 3, 4, 5, 6, 7, 8, 9, 10, 11, 12, 13] rfl) df) ?_
    rintro _ i0 ⟨rfl, a8⟩
    refine Ab ?_
    refine An (t := gf) rfl (fun ar => ?_) (fun ar => ?_)
    {
    have H := Au ar H
    refine A7 ?_
    refine Bb ?_
    obtain ⟨dg, ei, H⟩ := bind_some H
    refine A4 (J := (fun (v : LR ((List Ae) × (List Ao)) (PR Ao Int)) (x : X) (φ : Fr) (s : St) => match v with | .out (b0, b1) => x = .normal ∧ (∃ (au ad : A), Sl A0 au b0 ∧ Sl Cm ad b1 ∧ Hp s (C0 g a7 (.blk e (.cells [(vS a), (vS b), a4, a5, a6] 50) :: .blk a2 (.cells [(vI 0), (vI 0), (vI 0), (vI 0), A5] 52) :: .blk h (.cells [au] 167) :: .blk a1 (.cells [(vI 37), (vI 0), (vI 0), (vI 0), ad] 52) :: .app a4 130 :: .app a5 132 :: .app a6 52 :: .app ad 52 :: R)) ∧ Fl [(0, (.ptr g 0)), (4, (.ptr a2 0)), (5, (.ptr h 0)), (9, (.ptr a1 0))] φ) | .ret r => FinR cfg Tryz.f124 (Jl g e a b a4 a5 a6 a7 R r) x φ s) dg) ?_ ?_
    {
    have H := ei
    refine C5 (by kernel_rfl) ?_
    refine Az rfl rfl rfl rfl rfl rfl ?_
    refine Az (Ag a8 15 rfl rfl rfl rfl) rfl rfl rfl rfl rfl ?_
    refine Az rfl rfl rfl rfl rfl rfl ?_
    refine Az rfl rfl rfl rfl rfl rfl ?_
    obtain ⟨gg, bx, H⟩ := bind_some H
    rcases gg with dh | ki
    rotate_left
    {
    refine Bn (Bj az a8 bx) rfl rfl rfl rfl rfl (by kernel_rfl) ?_
    intro i1 ej
    obtain rfl := so H
    exact Bm (C := cfg) (fn := Tryz.f124) ⟨rfl, (Hp.pick ej 19 [] rfl)⟩}
    refine Bk (CaO.val (Bj az a8 bx)) rfl rfl rfl rfl rfl (by obtain ⟨gh, gi⟩ := dh; rintro _ ek ⟨gj, di, rfl, b2, dj, a9⟩; exact (Ad rfl (Ad rfl (B7 rfl (Ag a9 15 rfl rfl rfl rfl) (Ad rfl A6))))) ?_
    obtain ⟨gh, gi⟩ := dh
    rintro _ ek ⟨gj, di, rfl, b2, dj, a9⟩
    obtain ⟨gk, bz, H⟩ := bind_some H
    rcases gk with l | kj
    rotate_left
    {
    refine Bn (ihR u w y a0 b2 (Hp.pick a9 19 [1, 2, 3, 4, 5, 6, 7, 8, 9, 10, 11, 12, 13, 16, 17, 18, 0, 14, 15] rfl) bz) rfl rfl rfl rfl rfl (by kernel_rfl) ?_
    intro i2 el
    obtain rfl := so H
    exact Bm (C := cfg) (fn := Tryz.f124) ⟨rfl, (Hp.pick el 4 [] rfl)⟩}
    refine Bk (CaO.val (ihR u w y a0 b2 (Hp.pick a9 19 [1, 2, 3, 4, 5, 6, 7, 8, 9, 10, 11, 12, 13, 16, 17, 18, 0, 14, 15] rfl) bz)) rfl rfl rfl rfl rfl (by rintro _ em ⟨ae, rfl, dk, av⟩; exact (Ad rfl (Ad rfl (B7 rfl (Ag av 19 rfl rfl rfl rfl) (Ad rfl A6))))) ?_
    rintro _ em ⟨ae, rfl, dk, av⟩
    refine A9 (Cy (Am rfl rfl rfl rfl rfl Bc) rfl (Ak rfl rfl rfl) Tryz.underlying48 rfl rfl rfl rfl (by decide) rfl) rfl rfl rfl rfl (Ar rfl (Ar rfl A8)) ?_
    have gl : Sl Cm (.sl 5 [(vI l.f_Op), (vI l.f_W), (vI l.f_A), (vI l.f_B), ae] .ex) ([l] : List Ao) := .inr ⟨_, _, rfl, (.cons (c := [(vI l.f_Op), (vI l.f_W), (vI l.f_A), (vI l.f_B), ae]) (rTTerm_of ⟨ae, rfl, dk⟩) .nil)⟩
    have en := Dv av 52 5 [(vI l.f_Op), (vI l.f_W), (vI l.f_A), (vI l.f_B), ae]
    obtain ⟨kk, dl, H⟩ := bind_some H
    refine Js en 21 rfl de (New.of gl) dl rfl rfl rfl rfl rfl rfl rfl Tryz.underlying48 rfl Tryz.underlying48 rfl rfl rfl rfl rfl rfl rfl rfl (fun a' σ' h' hp' => ((Ad rfl (Ad rfl (Ad rfl (Bd (by kernel_rfl) (Ad rfl A6))))))) ?_
    intro gm i3 b3 eo
    refine A9 rfl rfl rfl rfl rfl (Ar rfl (Ar rfl (Ar rfl A8))) ?_
    refine Gm eo 20 rfl (Af (b3.cells) rfl rfl (by exact on b3.isOne on0) rfl rfl) rfl rfl rfl rfl rfl (fun σ' hp' => ((Ad rfl (Ad rfl (Ad rfl (Ad rfl (Bd (by kernel_rfl) (Ad rfl A6)))))))) ?_
    intro i4 ep
    refine Dh ?_
    obtain rfl := so H
    exact And.intro rfl ⟨di, gm, dj, b3, (Hp.pick ep 21 [1, 4, 5, 6, 7, 8, 9, 10, 11, 12, 13, 14, 2, 19, 18, 20, 15, 16, 17] rfl), (fl rfl)⟩}
    {
    rcases dg with ⟨b0, b1⟩ | kl
    {
    intro x i5 i6 hJ
    obtain ⟨rfl, au, ad, gn, go, eq, er⟩ := hJ
    exact Be (Fl.trans (G := [(0, (.ptr g 0)), (4, (.ptr a2 0)), (5, (.ptr h 0)), (9, (.ptr a1 0))]) (fl rfl) er) (ih ((b0, b1), (au, ad)) _ ⟨gn, go, eq⟩ H)}
    {
    intro x i7 i8 hJ
    obtain rfl := so H
    cases x <;> first | exact hJ | exact hJ.elim}}}
    {
    have H := Av ar H
    refine D9 ?_
    obtain rfl := so H
    exact And.intro rfl ⟨ge, de, (Hp.pick a8 20 [14, 15, 1, 2, 3, 4, 5, 6, 7, 8, 9, 10, 11, 12, 13, 19, 16, 17, 18] rfl), (fl rfl)⟩}}
    {
    rcases dc with dd | km
    {
    intro x i9 ia hJ
    obtain ⟨rfl, ac, dm, c0, es⟩ := hJ
    refine Be (F := [(4, (.ptr a2 0)), (9, (.ptr a1 0))]) es ?_
    refine Ac ?_
    refine Aa ?_
    refine W (Ag c0 1 rfl rfl rfl rfl) rfl ?_
    refine Al c0 0 rfl (Af rfl rfl rfl (by exact on rfl (on rfl (on rfl (on rfl (on dm.isOne on0))))) rfl rfl) rfl rfl rfl rfl rfl ?_
    intro ib c1
    refine Ab ?_
    obtain rfl := so H
    refine Aw ?_
    refine Fin.mk' (Bf c1 0 rfl rfl rfl rfl) ?_
    exact ⟨ac, rfl, dm, (Hp.pick c1 16 [2, 14, 15, 3, 4, 5, 6, 7, 8, 9, 10, 11, 12, 13] rfl)⟩}
    {
    intro x ic id hJ
    obtain rfl := so H
    cases x <;> first | exact hJ | exact hJ.elim}}}
    {
    refine Aj (gr_term_ok (@Fs n) u w y a0 db (Hp.pick bv 19 [3, 4, 5, 6, 7, 8, 9, 10, 11, 12, 13, 14, 15, 16, 17, 18, 0, 1, 2] rfl) bw) rfl rfl ?_
    intro ie et
    obtain rfl := so H
    exact Fin.pan (C := cfg) (fn := Tryz.f124) ⟨rfl, (Hp.pick et 3 [] rfl)⟩}}
    {
    refine Aj (Bj a3 j bu) rfl rfl ?_
    intro ig eu
    obtain rfl := so H
    exact Fin.pan (C := cfg) (fn := Tryz.f124) ⟨rfl, (Hp.pick eu 18 [] rfl)⟩}}
    {
    have H := Av ap H
    refine A7 ?_
    refine Ac ?_
    refine Aa ?_
    obtain ⟨gp, c2, H⟩ := bind_some H
    rcases gp with kn | ko
    {
    refine Ai (Ah j c2) rfl rfl rfl rfl ?_
    rintro _ ii ⟨rfl, ev⟩
    refine Ab ?_
    refine Ac ?_
    refine Aa ?_
    refine W (Bh Bc rfl rfl Tryz.underlying52 rfl rfl) rfl ?_
    refine Al ev 1 rfl (Af rfl rfl rfl rfl rfl rfl) rfl rfl rfl rfl rfl ?_
    intro ij c3
    refine Ab ?_
    obtain rfl := so H
    refine Aw ?_
    refine Fin.mk' (Bf c3 1 rfl rfl rfl rfl) ?_
    exact ⟨A5, rfl, Sl.nil, (Hp.pick (As c3 52) 17 [4, 16, 0, 5, 6, 7, 8, 9, 10, 11, 12, 13, 14, 15] rfl)⟩}
    {
    refine Aj (Ah j c2) rfl rfl ?_
    intro ik ew
    obtain rfl := so H
    exact Fin.pan (C := cfg) (fn := Tryz.f124) ⟨rfl, (Hp.pick ew 19 [] rfl)⟩}}}}}}}}
    {
    refine Aj (A1 ez c6 b5) rfl rfl ?_
    intro il ex
    obtain rfl := so H
    exact Fin.pan (C := cfg) (fn := Tryz.f124) ⟨rfl, (Hp.pick ex 18 [] rfl)⟩}}
    {
    refine Aj (Bo aw ax b4) rfl rfl ?_
    intro im ey
    obtain rfl := so H
    exact Fin.pan (C := cfg) (fn := Tryz.f124) ⟨rfl, (Hp.pick ey 18 [] rfl)⟩}

theorem gr_effect_ok {n : Nat} {g : Nat} {c : Nat} {m : TRd} {a : ByteArray} {b : ByteArray} {d : (List Da)} {e : (List B5)} {f : (List Ao)} {h : Ae} {i : A} {j : A} {k : A} {l : (List A)} {o : A} {R : List Res} {σ : St} (q : Sl rTArg i d) (s : Sl Hm j e) (t : Sl Cm k f) (u : E2 (.ptr c 0) m l) (p : Sl A0 o h.f_Kids) (hp : Hp σ (C0 g l (.blk c (.cells [(vS a), (vS b), i, j, k] 50) :: .app i 130 :: .app j 132 :: .app k 52 :: R))) {r : (PR Ao Int)} (H : gr_effect n m a b d e f h = some r) : CaO cfg 124 [(.ptr g 0), (.agg [(vI h.f_Kind), (vS h.f_Word), (vI h.f_Num), o])] σ (Jl g c a b i j k l R r) := gr_effect_rec_ok n q s t u p hp H

theorem gisadl_relName_ok {n : Nat} {a : Eq} {c : A} {R : List Res} {σ : St} (d : Sl Cm c a.f_Calc.f_Kids) (hp : Hp σ R) {r : ByteArray} (H : gisadl_relName n a = some r) : Ca cfg 126 [(.agg [(vS a.f_Name), (vI a.f_Num), (vI a.f_Kind), (vI a.f_Bytes), (vI a.f_Class), (vI a.f_Class2), (vI a.f_Calc.f_Op), (vI a.f_Calc.f_W), (vI a.f_Calc.f_A), (vI a.f_Calc.f_B), c, (vI a.f_Sign), (vI a.f_Width), (vI a.f_Align), (vI a.f_Round), (vI a.f_Hi), (vI a.f_Lo)])] σ (gisadl_relName_post R r) := by
 unfold gisadl_relName at H
 refine Ca.enterL (G := [(0, (.agg [(vS a.f_Name), (vI a.f_Num), (vI a.f_Kind), (vI a.f_Bytes), (vI a.f_Class), (vI a.f_Class2), (vI a.f_Calc.f_Op), (vI a.f_Calc.f_W), (vI a.f_Calc.f_A), (vI a.f_Calc.f_B), c, (vI a.f_Sign), (vI a.f_Width), (vI a.f_Align), (vI a.f_Round), (vI a.f_Hi), (vI a.f_Lo)]))]) Tryz.func126 rfl rfl rfl rfl (Ac (Aa (Cb hp rfl (by exact on rfl (on rfl (on rfl (on rfl (on rfl (on rfl (on rfl (on rfl (on rfl (on rfl (on d.isOne (on rfl (on rfl (on rfl (on rfl (on rfl (on rfl on0))))))))))))))))) rfl rfl rfl rfl rfl ?_)))
 intro f e b
 refine V rfl (Ab (Ac (Aa (V rfl (W (Ag b 0 rfl rfl rfl rfl) rfl ?_)))))
 refine V rfl (Ab ?_)
 obtain rfl := so H
 refine Aw (Ret.mk rfl ?_)
 exact ⟨rfl, (Hp.pick b 1 [] rfl)⟩

theorem gisadl_place_1_172_126_ok {n : Nat} {c : Nat} {d : Nat} {a : Eq} {b : ByteArray} {i : A} {R : List Res} {σ : St} (m : Sl Cm i a.f_Calc.f_Kids) (hp : Hp σ (.blk c (.cells [(.fn (.func 126) [] [])] 184) :: .blk d (.cells [(vS b)] 9) :: R)) {r : Bool} (H : I0 n a b = some r) : Ca cfg 172 [(.agg [(vS a.f_Name), (vI a.f_Num), (vI a.f_Kind), (vI a.f_Bytes), (vI a.f_Class), (vI a.f_Class2), (vI a.f_Calc.f_Op), (vI a.f_Calc.f_W), (vI a.f_Calc.f_A), (vI a.f_Calc.f_B), i, (vI a.f_Sign), (vI a.f_Width), (vI a.f_Align), (vI a.f_Round), (vI a.f_Hi), (vI a.f_Lo)]), (.ptr c 0), (.ptr d 0)] σ (gisadl_place_1_172_126_post c d b R r) := by
 unfold I0 at H
 refine Ca.enterL (G := [(0, (.agg [(vS a.f_Name), (vI a.f_Num), (vI a.f_Kind), (vI a.f_Bytes), (vI a.f_Class), (vI a.f_Class2), (vI a.f_Calc.f_Op), (vI a.f_Calc.f_W), (vI a.f_Calc.f_A), (vI a.f_Calc.f_B), i, (vI a.f_Sign), (vI a.f_Width), (vI a.f_Align), (vI a.f_Round), (vI a.f_Hi), (vI a.f_Lo)])), (1, (.ptr c 0)), (2, (.ptr d 0))]) Tryz.func172 rfl rfl rfl rfl (Ac (Aa (Cb hp rfl (by exact on rfl (on rfl (on rfl (on rfl (on rfl (on rfl (on rfl (on rfl (on rfl (on rfl (on m.isOne (on rfl (on rfl (on rfl (on rfl (on rfl (on rfl on0))))))))))))))))) rfl rfl rfl rfl rfl ?_)))
 intro v t e
 refine V rfl (Ab (Ac ?_))
 obtain ⟨g, j, H⟩ := bind_some H
 refine A4 (J := (fun (g : Bool) (x : X) (φ : Fr) (s : St) => x = .normal ∧ (Hp s (.blk c (.cells [(.fn (.func 126) [] [])] 184) :: .blk d (.cells [(vS b)] 9) :: R) ∧ Fl [(4, (vB g))] φ)) g) ?_ ?_
 {
 have H := j
 refine Fw (by kernel_rfl) (Az (Ag e 1 rfl rfl rfl rfl) rfl rfl rfl rfl rfl (Az (Ag e 0 rfl rfl rfl rfl) rfl rfl rfl rfl rfl ?_))
 obtain ⟨u, h, H⟩ := bind_some H
 refine Bk (gisadl_relName_ok m e h) rfl rfl rfl rfl rfl (fun _ _ _ => (Bd (by kernel_rfl) (Bd (by kernel_rfl) A6))) ?_
 rintro _ o ⟨rfl, f⟩
 refine A9 (Ag f 2 rfl rfl rfl rfl) rfl rfl rfl rfl (stP_op rfl (Ag e 2 rfl rfl rfl rfl) A8) (A9 (B9 rfl (Bi _ _)) rfl rfl rfl rfl (Ar rfl A8) (A9 rfl rfl rfl rfl rfl (Ar rfl A8) (Dh ?_)))
 obtain rfl := so H
 exact And.intro rfl (And.intro rfl ⟨(Hp.pick f 1 [] rfl), (fl rfl)⟩)}
 {
 intro x p q hJ
 obtain ⟨rfl, k, l⟩ := hJ
 refine Be (F := [(4, (vB g))]) l ?_
 obtain rfl := so H
 refine Aw (Ret.mk rfl ?_)
 exact ⟨rfl, k⟩}

theorem gslices_IndexFunc_171_172_126_ok {n : Nat} {b : Nat} {c : Nat} {d : (List Eq)} {a : ByteArray} {j : A} {R : List Res} {σ : St} (y : Sl rTRel j d) (hp : Hp σ (.blk b (.cells [(.fn (.func 126) [] [])] 184) :: .blk c (.cells [(vS a)] 9) :: R)) {r : Int} (H : Dr n d a = some r) : Ca cfg 171 [j, (.fn (.func 172) [] [(.ptr b 0), (.ptr c 0)])] σ (Hh b c a R r) := by
 unfold Dr at H
 refine Ca.enterL (G := [(0, j), (1, (.fn (.func 172) [] [(.ptr b 0), (.ptr c 0)]))]) Tryz.func171 rfl rfl rfl rfl (Ac (Aa (V rfl (Ab (Ac ?_)))))
 refine Ac (Aa (V rfl (W (Cj y rfl rfl rfl rfl rfl Tryz.underlying32) rfl (V rfl (Ab ?_)))))
 refine Bb ?_
 obtain ⟨o, q, H⟩ := bind_some H
 refine A4 (J := _) (D8 (fl rfl) (Cw (f := (fun m (i : Int × Unit) => Bv n d a m i.1)) (G := (fun (i : Int × Unit) => ([(0, j), (1, (.fn (.func 172) [] [(.ptr b 0), (.ptr c 0)])), (7, (vI ((d.length : Nat) : Int))), (8, (vI i.1))] : List (Nat × A)))) (I := (fun (i : Int × Unit) (s : St) => Hp s (.blk b (.cells [(.fn (.func 126) [] [])] 184) :: .blk c (.cells [(vS a)] 9) :: R))) (J := (fun (v : LR Unit Int) (x : X) (φ : Fr) (s : St) => match v with | .out _ => x = (.exit 0) ∧ (Hp s (.blk b (.cells [(.fn (.func 126) [] [])] 184) :: .blk c (.cells [(vS a)] 9) :: R) ∧ Fl [] φ) | .ret r => x = .ret ∧ Ret cfg Tryz.f171 (Hh b c a R r) .ret φ s)) (fun _ => rfl) ?_ n (0, ()) _ o hp q)) ?_
 {
 rintro m ⟨h, _⟩ z v p H ih
 change Bv n d a (m + 1) h = some v at H
 rw [Bv] at H
 change Ec _ _ _ [(0, j), (1, (.fn (.func 172) [] [(.ptr b 0), (.ptr c 0)])), (7, (vI ((d.length : Nat) : Int))), (8, (vI h))] z _
 refine Ac (Aa (V rfl (Ab (Ac ?_))))
 refine An (t := (decide (h < ((d.length : Nat) : Int)))) rfl (fun e => ?_) (fun e => ?_)
 {
 have H := Au e H
 refine A7 (Ac (Bb (Ac (Aa (V rfl ?_)))))
 refine V rfl (Ab (Ac (Aa ?_)))
 iterate 3 refine V rfl ?_
 obtain ⟨a8, hvx27, H⟩ := bind_some H
 refine F8 y hvx27 rfl rfl rfl Tryz.underlying32 rfl rfl rfl rfl ?_
 rintro a2 a9 _ hat30 ⟨aa, rfl, a0⟩
 refine W (Eb hat30 0 rfl rfl rfl rfl rfl rfl) rfl ?_
 obtain ⟨a1, l, H⟩ := bind_some H
 refine A2 rfl rfl rfl rfl (gisadl_place_1_172_126_ok a0 p l) ?_
 rintro _ a3 ⟨rfl, k⟩
 refine Ab ?_
 refine An (t := a1) rfl (fun g => ?_) (fun g => ?_)
 {
 have H := Au g H
 refine Ac (Aa (V rfl (V rfl (Ab ?_))))
 obtain rfl := so H
 refine Aw ?_
 refine And.intro rfl (Ret.mk rfl ?_)
 exact ⟨rfl, k⟩}
 {
 have H := Av g H
 refine A7 (Aa (V rfl (V rfl (Ab ?_))))
 exact Be (fl rfl) (ih ((IntKind.wrap .i64 (h + 1)), ()) _ k H)}}
 {
 have H := Av e H
 refine D9 ?_
 obtain rfl := so H
 exact And.intro rfl ⟨p, (.nil')⟩}}
 {
 rcases o with _ | ab
 {
 intro x a4 a5 hJ
 obtain ⟨rfl, u, w⟩ := hJ
 refine Be (F := []) w (Ac (Aa (V rfl (Ab ?_))))
 obtain rfl := so H
 refine Aw (Ret.mk rfl ?_)
 exact ⟨rfl, u⟩}
 {
 intro x a6 a7 hJ
 obtain rfl := so H
 obtain ⟨rfl, hr⟩ := hJ
 exact hr}}

theorem Kt {n : Nat} {h : (List Eq)} {c : ByteArray} {d : A} {R : List Res} {σ : St} (l : Sl rTRel d h) (hp : Hp σ R) {r : (PR Int Int)} (H : Gc n h c = some r) : CaO cfg 129 [d, (vS c), (.fn (.func 126) [] [])] σ (gisadl_place_129_126_post R r) := by
 unfold Gc at H
 refine CaO.enterL (G := [(0, d), (1, (vS c)), (2, (.fn (.func 126) [] []))]) Tryz.func129 rfl rfl rfl rfl (Ac (Aa (Cb hp rfl rfl rfl rfl rfl rfl rfl ?_)))
 intro v q i
 refine Cb i rfl rfl rfl rfl rfl rfl rfl ?_
 intro w s j
 refine V rfl (Ab (Ac (Aa (V rfl (V rfl ?_)))))
 obtain ⟨x, e, H⟩ := bind_some H
 refine A2 rfl rfl rfl rfl (gslices_IndexFunc_171_172_126_ok l j e) ?_
 rintro _ m ⟨rfl, a⟩
 refine V rfl (Ab (Ac (Aa (V rfl (V rfl ?_)))))
 obtain ⟨k, b, H⟩ := bind_some H
 rcases k with t | u
 {
 refine Ai (Ah a b) rfl rfl rfl rfl ?_
 rintro _ o ⟨rfl, f⟩
 refine Ab (Ac (Aa (V rfl (V rfl (Ab ?_)))))
 obtain rfl := so H
 refine Aw (Fin.mk rfl ?_)
 exact ⟨rfl, (Hp.pick f 2 [] rfl)⟩}
 {
 refine Aj (Ah a b) rfl rfl ?_
 intro p g
 obtain rfl := so H
 exact Fin.pan (C := cfg) (fn := Tryz.f129) ⟨rfl, (Hp.pick g 2 [] rfl)⟩}

theorem gisadl_fresh_1_170_126_ok {n : Nat} {c : Nat} {d : Nat} {a : Eq} {b : ByteArray} {i : A} {R : List Res} {σ : St} (m : Sl Cm i a.f_Calc.f_Kids) (hp : Hp σ (.blk c (.cells [(.fn (.func 126) [] [])] 184) :: .blk d (.cells [(vS b)] 9) :: R)) {r : Bool} (H : I1 n a b = some r) : Ca cfg 170 [(.agg [(vS a.f_Name), (vI a.f_Num), (vI a.f_Kind), (vI a.f_Bytes), (vI a.f_Class), (vI a.f_Class2), (vI a.f_Calc.f_Op), (vI a.f_Calc.f_W), (vI a.f_Calc.f_A), (vI a.f_Calc.f_B), i, (vI a.f_Sign), (vI a.f_Width), (vI a.f_Align), (vI a.f_Round), (vI a.f_Hi), (vI a.f_Lo)]), (.ptr c 0), (.ptr d 0)] σ (gisadl_fresh_1_170_126_post c d b R r) := by
 unfold I1 at H
 refine Ca.enterL (G := [(0, (.agg [(vS a.f_Name), (vI a.f_Num), (vI a.f_Kind), (vI a.f_Bytes), (vI a.f_Class), (vI a.f_Class2), (vI a.f_Calc.f_Op), (vI a.f_Calc.f_W), (vI a.f_Calc.f_A), (vI a.f_Calc.f_B), i, (vI a.f_Sign), (vI a.f_Width), (vI a.f_Align), (vI a.f_Round), (vI a.f_Hi), (vI a.f_Lo)])), (1, (.ptr c 0)), (2, (.ptr d 0))]) Tryz.func170 rfl rfl rfl rfl (Ac (Aa (Cb hp rfl (by exact on rfl (on rfl (on rfl (on rfl (on rfl (on rfl (on rfl (on rfl (on rfl (on rfl (on m.isOne (on rfl (on rfl (on rfl (on rfl (on rfl (on rfl on0))))))))))))))))) rfl rfl rfl rfl rfl ?_)))
 intro v t e
 refine V rfl (Ab (Ac ?_))
 obtain ⟨g, j, H⟩ := bind_some H
 refine A4 (J := (fun (g : Bool) (x : X) (φ : Fr) (s : St) => x = .normal ∧ (Hp s (.blk c (.cells [(.fn (.func 126) [] [])] 184) :: .blk d (.cells [(vS b)] 9) :: R) ∧ Fl [(4, (vB g))] φ)) g) ?_ ?_
 {
 have H := j
 refine Fw (by kernel_rfl) (Az (Ag e 1 rfl rfl rfl rfl) rfl rfl rfl rfl rfl (Az (Ag e 0 rfl rfl rfl rfl) rfl rfl rfl rfl rfl ?_))
 obtain ⟨u, h, H⟩ := bind_some H
 refine Bk (gisadl_relName_ok m e h) rfl rfl rfl rfl rfl (fun _ _ _ => (Bd (by kernel_rfl) (Bd (by kernel_rfl) A6))) ?_
 rintro _ o ⟨rfl, f⟩
 refine A9 (Ag f 2 rfl rfl rfl rfl) rfl rfl rfl rfl (stP_op rfl (Ag e 2 rfl rfl rfl rfl) A8) (A9 (B9 rfl (Bi _ _)) rfl rfl rfl rfl (Ar rfl A8) (A9 rfl rfl rfl rfl rfl (Ar rfl A8) (Dh ?_)))
 obtain rfl := so H
 exact And.intro rfl (And.intro rfl ⟨(Hp.pick f 1 [] rfl), (fl rfl)⟩)}
 {
 intro x p q hJ
 obtain ⟨rfl, k, l⟩ := hJ
 refine Be (F := [(4, (vB g))]) l ?_
 obtain rfl := so H
 refine Aw (Ret.mk rfl ?_)
 exact ⟨rfl, k⟩}

theorem gslices_IndexFunc_171_170_126_ok {n : Nat} {b : Nat} {c : Nat} {d : (List Eq)} {a : ByteArray} {j : A} {R : List Res} {σ : St} (y : Sl rTRel j d) (hp : Hp σ (.blk b (.cells [(.fn (.func 126) [] [])] 184) :: .blk c (.cells [(vS a)] 9) :: R)) {r : Int} (H : Ds n d a = some r) : Ca cfg 171 [j, (.fn (.func 170) [] [(.ptr b 0), (.ptr c 0)])] σ (Hi b c a R r) := by
 unfold Ds at H
 refine Ca.enterL (G := [(0, j), (1, (.fn (.func 170) [] [(.ptr b 0), (.ptr c 0)]))]) Tryz.func171 rfl rfl rfl rfl (Ac (Aa (V rfl (Ab (Ac ?_)))))
 refine Ac (Aa (V rfl (W (Cj y rfl rfl rfl rfl rfl Tryz.underlying32) rfl (V rfl (Ab ?_)))))
 refine Bb ?_
 obtain ⟨o, q, H⟩ := bind_some H
 refine A4 (J := _) (D8 (fl rfl) (Cw (f := (fun m (i : Int × Unit) => Bw n d a m i.1)) (G := (fun (i : Int × Unit) => ([(0, j), (1, (.fn (.func 170) [] [(.ptr b 0), (.ptr c 0)])), (7, (vI ((d.length : Nat) : Int))), (8, (vI i.1))] : List (Nat × A)))) (I := (fun (i : Int × Unit) (s : St) => Hp s (.blk b (.cells [(.fn (.func 126) [] [])] 184) :: .blk c (.cells [(vS a)] 9) :: R))) (J := (fun (v : LR Unit Int) (x : X) (φ : Fr) (s : St) => match v with | .out _ => x = (.exit 0) ∧ (Hp s (.blk b (.cells [(.fn (.func 126) [] [])] 184) :: .blk c (.cells [(vS a)] 9) :: R) ∧ Fl [] φ) | .ret r => x = .ret ∧ Ret cfg Tryz.f171 (Hi b c a R r) .ret φ s)) (fun _ => rfl) ?_ n (0, ()) _ o hp q)) ?_
 {
 rintro m ⟨h, _⟩ z v p H ih
 change Bw n d a (m + 1) h = some v at H
 rw [Bw] at H
 change Ec _ _ _ [(0, j), (1, (.fn (.func 170) [] [(.ptr b 0), (.ptr c 0)])), (7, (vI ((d.length : Nat) : Int))), (8, (vI h))] z _
 refine Ac (Aa (V rfl (Ab (Ac ?_))))
 refine An (t := (decide (h < ((d.length : Nat) : Int)))) rfl (fun e => ?_) (fun e => ?_)
 {
 have H := Au e H
 refine A7 (Ac (Bb (Ac (Aa (V rfl ?_)))))
 refine V rfl (Ab (Ac (Aa ?_)))
 iterate 3 refine V rfl ?_
 obtain ⟨a8, hvx27, H⟩ := bind_some H
 refine F8 y hvx27 rfl rfl rfl Tryz.underlying32 rfl rfl rfl rfl ?_
 rintro a2 a9 _ hat30 ⟨aa, rfl, a0⟩
 refine W (Eb hat30 0 rfl rfl rfl rfl rfl rfl) rfl ?_
 obtain ⟨a1, l, H⟩ := bind_some H
 refine A2 rfl rfl rfl rfl (gisadl_fresh_1_170_126_ok a0 p l) ?_
 rintro _ a3 ⟨rfl, k⟩
 refine Ab ?_
 refine An (t := a1) rfl (fun g => ?_) (fun g => ?_)
 {
 have H := Au g H
 refine Ac (Aa (V rfl (V rfl (Ab ?_))))
 obtain rfl := so H
 refine Aw ?_
 refine And.intro rfl (Ret.mk rfl ?_)
 exact ⟨rfl, k⟩}
 {
 have H := Av g H
 refine A7 (Aa (V rfl (V rfl (Ab ?_))))
 exact Be (fl rfl) (ih ((IntKind.wrap .i64 (h + 1)), ()) _ k H)}}
 {
 have H := Av e H
 refine D9 ?_
 obtain rfl := so H
 exact And.intro rfl ⟨p, (.nil')⟩}}
 {
 rcases o with _ | ab
 {
 intro x a4 a5 hJ
 obtain ⟨rfl, u, w⟩ := hJ
 refine Be (F := []) w (Ac (Aa (V rfl (Ab ?_))))
 obtain rfl := so H
 refine Aw (Ret.mk rfl ?_)
 exact ⟨rfl, u⟩}
 {
 intro x a6 a7 hJ
 obtain rfl := so H
 obtain ⟨rfl, hr⟩ := hJ
 exact hr}}

theorem Ka {n : Nat} {a : Nat} {b : Nat} {f : (List Eq)} {c : ByteArray} {d : A} {R : List Res} {σ : St} (h : Sl rTRel d f) (hp : Hp σ (.blk a (.cells [(.fn (.func 126) [] [])] 184) :: .blk b (.cells [(vS c)] 9) :: R)) {r : Bool} (H : C4 n f c = some r) : Ca cfg 169 [d, (.fn (.func 170) [] [(.ptr a 0), (.ptr b 0)])] σ (Jy a b c R r) := by
 unfold C4 at H
 refine Ca.enterL (G := [(0, d), (1, (.fn (.func 170) [] [(.ptr a 0), (.ptr b 0)]))]) Tryz.func169 rfl rfl rfl rfl (Ac (Aa (V rfl (Ab (Ac ?_)))))
 refine Aa (V rfl (V rfl ?_))
 obtain ⟨j, e, H⟩ := bind_some H
 refine A2 rfl rfl rfl rfl (gslices_IndexFunc_171_170_126_ok h hp e) ?_
 rintro _ i ⟨rfl, g⟩
 refine V rfl (V rfl (Ab ?_))
 obtain rfl := so H
 refine Aw (Ret.mk rfl ?_)
 exact ⟨rfl, g⟩

theorem Ku {n : Nat} {l : (List Eq)} {f : ByteArray} {g : Int} {h : A} {R : List Res} {σ : St} (m : Sl rTRel h l) (hp : Hp σ R) {r : (PR ByteArray Int)} (H : Gd n l f g = some r) : CaO cfg 125 [h, (vS f), (vI g), (.fn (.func 126) [] [])] σ (gisadl_fresh_125_126_post R r) := by
 unfold Gd at H
 refine CaO.enterL (G := [(0, h), (1, (vS f)), (2, (vI g)), (3, (.fn (.func 126) [] []))]) Tryz.func125 rfl rfl rfl rfl (Ac (Aa (Cb hp rfl rfl rfl rfl rfl rfl rfl ?_)))
 intro a4 y o
 refine Cb o rfl rfl rfl rfl rfl rfl rfl ?_
 intro a5 z p
 refine V rfl (Ab (Ac (Aa (V rfl (V rfl ?_)))))
 obtain ⟨a6, i, H⟩ := bind_some H
 refine A2 rfl rfl rfl rfl (Ka m p i) ?_
 rintro _ t ⟨rfl, a⟩
 refine V rfl ?_
 obtain ⟨q, b, H⟩ := bind_some H
 rcases q with a0 | a1
 {
 refine Ai (Ah a b) rfl rfl rfl rfl ?_
 rintro _ u ⟨rfl, c⟩
 refine Ab (Ac (Aa (V rfl (W (Cj m rfl rfl rfl rfl rfl Tryz.underlying32) rfl (V rfl ?_)))))
 refine V rfl ?_
 obtain ⟨s, d, H⟩ := bind_some H
 rcases s with a2 | a3
 {
 refine Ai (Ah c d) rfl rfl rfl rfl ?_
 rintro _ v ⟨rfl, e⟩
 refine Ab (Ac (Aa (W (Ag e 1 rfl rfl rfl rfl) rfl (V rfl (Ab ?_)))))
 obtain rfl := so H
 refine Aw (Fin.mk rfl ?_)
 exact ⟨rfl, (Hp.pick e 2 [] rfl)⟩}
 {
 refine Aj (Ah c d) rfl rfl ?_
 intro w j
 obtain rfl := so H
 exact Fin.pan (C := cfg) (fn := Tryz.f125) ⟨rfl, (Hp.pick j 2 [] rfl)⟩}}
 {
 refine Aj (Ah a b) rfl rfl ?_
 intro x k
 obtain rfl := so H
 exact Fin.pan (C := cfg) (fn := Tryz.f125) ⟨rfl, (Hp.pick k 2 [] rfl)⟩}

theorem gisadl_calc_rec_ok {n : Nat} : ∀ (k : Nat) {h : Ae} {an : A} {R : List Res} {σ : St} (ao : Sl A0 an h.f_Kids) (hp : Hp σ R) {r : (PR Ao Int)} (H : En n k h = some r), CaO cfg 127 [(.agg [(vI h.f_Kind), (vS h.f_Word), (vI h.f_Num), an])] σ (Ie R r) := by
  intro k
  induction k with
  | zero => intro h an R σ ao hp r H; rw [En] at H; cases H
  | succ k ihR =>
    intro h an R σ ao hp r H
    rw [En] at H
    refine CaO.enterL (G := [(0, (.agg [(vI h.f_Kind), (vS h.f_Word), (vI h.f_Num), an]))]) Tryz.func127 rfl rfl rfl rfl ?_
    refine Ac ?_
    refine Aa ?_
    refine Cb hp rfl (by exact on rfl (on rfl (on rfl (on ao.isOne on0)))) rfl rfl rfl rfl rfl ?_
    intro ee e6 co
    refine Cs (z := [(vI 0), (vI 0), (vI 0), (vI 0), A5]) co rfl rfl rfl rfl rfl ?_
    intro j de o
    refine Ab ?_
    refine Ac ?_
    refine Ac ?_
    refine Aa ?_
    refine V rfl ?_
    refine W (Ag o 1 rfl rfl rfl rfl) rfl ?_
    refine Ab ?_
    refine Bb ?_
    refine Ac ?_
    refine Aa ?_
    refine V rfl ?_
    refine V rfl ?_
    refine Ab ?_
    refine An (t := (h.f_Kind == 2)) rfl (fun a3 => ?_) (fun a3 => ?_)
    {
    have H := Au a3 H
    refine Ac ?_
    refine Aa ?_
    refine V rfl ?_
    refine W (Ag o 1 rfl rfl rfl rfl) rfl ?_
    refine W (Bh (Am rfl rfl rfl rfl rfl (Am rfl rfl rfl rfl rfl (Am rfl rfl rfl rfl rfl Bc))) rfl (Ak rfl rfl (Ak rfl rfl (Ak rfl rfl rfl))) Tryz.underlying52 rfl rfl) rfl ?_
    refine Al o 0 rfl (Af rfl rfl rfl rfl rfl rfl) rfl rfl rfl rfl rfl ?_
    intro df ap
    refine Ab ?_
    obtain rfl := so H
    refine Aw ?_
    refine Fin.mk' (Bf ap 0 rfl rfl rfl rfl) ?_
    exact ⟨A5, rfl, Sl.nil, (Hp.pick (As ap 52) 3 [0] rfl)⟩}
    {
    have H := Av a3 H
    refine Ac ?_
    refine Aa ?_
    refine V rfl ?_
    refine V rfl ?_
    refine Ab ?_
    refine An (t := (h.f_Kind == 1)) rfl (fun a4 => ?_) (fun a4 => ?_)
    {
    have H := Au a4 H
    refine Ac ?_
    refine Aa ?_
    refine Eo.val (x := (.sl 1 [(vS (ByteArray.mk #[83])), (vS (ByteArray.mk #[65])), (vS (ByteArray.mk #[80])), (vS (ByteArray.mk #[71])), (vS (ByteArray.mk #[84])), (vS (ByteArray.mk #[])), (vS (ByteArray.mk #[72]))] .ex)) (Cy (Am rfl rfl rfl rfl rfl (Am rfl rfl rfl rfl rfl (Am rfl rfl rfl rfl rfl (Am rfl rfl rfl rfl rfl (Am rfl rfl rfl rfl rfl (Am rfl rfl rfl rfl rfl (Am rfl rfl rfl rfl rfl Bc))))))) rfl (Ak rfl rfl (Ak rfl rfl (Ak rfl rfl (Ak rfl rfl (Ak rfl rfl (Ak rfl rfl (Ak rfl rfl rfl))))))) Tryz.underlying29 rfl rfl rfl rfl (by decide) rfl) rfl rfl rfl ?_
    have cp : Sl rS (.sl 1 [(vS (ByteArray.mk #[83])), (vS (ByteArray.mk #[65])), (vS (ByteArray.mk #[80])), (vS (ByteArray.mk #[71])), (vS (ByteArray.mk #[84])), (vS (ByteArray.mk #[])), (vS (ByteArray.mk #[72]))] .ex) ([(ByteArray.mk #[83]), (ByteArray.mk #[65]), (ByteArray.mk #[80]), (ByteArray.mk #[71]), (ByteArray.mk #[84]), (ByteArray.mk #[]), (ByteArray.mk #[72])] : List ByteArray) := .inr ⟨_, _, rfl, (.cons (c := [(vS (ByteArray.mk #[83]))]) rfl (.cons (c := [(vS (ByteArray.mk #[65]))]) rfl (.cons (c := [(vS (ByteArray.mk #[80]))]) rfl (.cons (c := [(vS (ByteArray.mk #[71]))]) rfl (.cons (c := [(vS (ByteArray.mk #[84]))]) rfl (.cons (c := [(vS (ByteArray.mk #[]))]) rfl (.cons (c := [(vS (ByteArray.mk #[72]))]) rfl .nil)))))))⟩
    have aq := Dv o 9 1 [(vS (ByteArray.mk #[83])), (vS (ByteArray.mk #[65])), (vS (ByteArray.mk #[80])), (vS (ByteArray.mk #[71])), (vS (ByteArray.mk #[84])), (vS (ByteArray.mk #[])), (vS (ByteArray.mk #[72]))]
    refine V rfl ?_
    refine W (Ag aq 2 rfl rfl rfl rfl) rfl ?_
    obtain ⟨e7, bc, H⟩ := bind_some H
    refine A2 rfl rfl rfl rfl (H4 cp aq bc) ?_
    rintro _ dg ⟨rfl, ar⟩
    refine V rfl ?_
    refine Ab ?_
    refine Ac ?_
    refine Aa ?_
    refine V rfl ?_
    refine V rfl ?_
    obtain ⟨cq, au, H⟩ := bind_some H
    rcases cq with e8 | e9
    {
    refine Ai (Ah ar au) rfl rfl rfl rfl ?_
    rintro _ dh ⟨rfl, bv⟩
    refine Ab ?_
    refine Ac ?_
    refine Aa ?_
    refine V rfl ?_
    refine V rfl ?_
    refine W (Bh (Am rfl rfl rfl rfl rfl Bc) rfl (Ak rfl rfl rfl) Tryz.underlying52 rfl rfl) rfl ?_
    refine Al bv 1 rfl (Af rfl rfl rfl rfl rfl rfl) rfl rfl rfl rfl rfl ?_
    intro di av
    refine Ab ?_
    obtain rfl := so H
    refine Aw ?_
    refine Fin.mk' (Bf av 1 rfl rfl rfl rfl) ?_
    exact ⟨A5, rfl, Sl.nil, (Hp.pick (As av 52) 4 [0] rfl)⟩}
    {
    refine Aj (Ah ar au) rfl rfl ?_
    intro dj bw
    obtain rfl := so H
    exact Fin.pan (C := cfg) (fn := Tryz.f127) ⟨rfl, (Hp.pick bw 3 [] rfl)⟩}}
    {
    have H := Av a4 H
    refine A7 ?_
    refine Ac ?_
    refine Aa ?_
    refine W (Ag o 1 rfl rfl rfl rfl) rfl ?_
    obtain ⟨bx, ae, H⟩ := bind_some H
    rcases bx with ea | dk
    {
    refine Ai (Bo ao o ae) rfl rfl rfl rfl ?_
    rintro _ dl ⟨a, eb, rfl, bt, bz⟩
    refine V rfl ?_
    refine Ab ?_
    refine Ac ?_
    refine Aa ?_
    refine W (Bh Bc rfl rfl Tryz.underlying52 rfl rfl) rfl ?_
    refine Cs (z := [(vI 0), (vI 0), (vI 0), (vI 0), A5]) bz rfl rfl rfl rfl rfl ?_
    intro d dm c0
    refine Al c0 0 rfl (Af rfl rfl rfl rfl rfl rfl) rfl rfl rfl rfl rfl ?_
    intro dn aw
    refine Ab ?_
    refine Ac ?_
    refine Aa ?_
    refine V rfl ?_
    refine Ab ?_
    refine Ac ?_
    refine Ac ?_
    refine Aa ?_
    refine V rfl ?_
    obtain ⟨c1, af, H⟩ := bind_some H
    rcases c1 with c2 | dp
    {
    refine Ai (A1 bt (Hp.pick aw 2 [1, 0] rfl) af) rfl rfl rfl rfl ?_
    obtain ⟨ax, cr⟩ := c2
    rintro _ dq ⟨bu, rfl, cs, p⟩
    refine Ab ?_
    obtain ⟨ay, bd, H⟩ := bind_some H
    refine A4 (J := (fun (v : LR (Int × Int) (PR Ao Int)) (x : X) (φ : Fr) (s : St) => match v with | .out (e, a2) => x = .normal ∧ (Hp s (.blk j (.cells [(vI 0), (vI 0), (vI 0), (vI 0), A5] 52) :: .blk a (.cells [bu] 167) :: .blk d (.cells [(vI a2), (vI 0), (vI 0), (vI 0), A5] 52) :: R) ∧ Fl [(2, (.ptr j 0)), (4, (.ptr a 0)), (5, (.ptr d 0)), (6, (vI e))] φ) | .ret r => FinR cfg Tryz.f127 (Ie R r) x φ s) ay) ?_ ?_
    {
    have H := bd
    refine Bb ?_
    refine Ac ?_
    refine Aa ?_
    refine W (B9 rfl (Bi _ _)) rfl ?_
    refine V rfl ?_
    refine Ab ?_
    refine An (t := (decide (ax = (ByteArray.mk #[97, 100, 100])))) rfl (fun a5 => ?_) (fun a5 => ?_)
    {
    have H := Au a5 H
    refine Aa ?_
    refine V rfl ?_
    refine Al p 1 rfl (Af rfl rfl rfl rfl rfl rfl) rfl rfl rfl rfl rfl ?_
    intro dr c3
    refine Ab ?_
    obtain rfl := so H
    exact And.intro rfl ⟨(Hp.pick c3 4 [2, 0, 1] rfl), (fl rfl)⟩}
    {
    have H := Av a5 H
    refine Ac ?_
    refine Aa ?_
    refine W (B9 rfl (Bi _ _)) rfl ?_
    refine V rfl ?_
    refine Ab ?_
    refine An (t := (decide (ax = (ByteArray.mk #[115, 117, 98])))) rfl (fun a6 => ?_) (fun a6 => ?_)
    {
    have H := Au a6 H
    refine Aa ?_
    refine V rfl ?_
    refine Al p 1 rfl (Af rfl rfl rfl rfl rfl rfl) rfl rfl rfl rfl rfl ?_
    intro ds c4
    refine Ab ?_
    obtain rfl := so H
    exact And.intro rfl ⟨(Hp.pick c4 4 [2, 0, 1] rfl), (fl rfl)⟩}
    {
    have H := Av a6 H
    refine Ac ?_
    refine Aa ?_
    refine W (B9 rfl (Bi _ _)) rfl ?_
    refine V rfl ?_
    refine Ab ?_
    refine An (t := (decide (ax = (ByteArray.mk #[112, 97, 103, 101])))) rfl (fun a7 => ?_) (fun a7 => ?_)
    {
    have H := Au a7 H
    refine Ac ?_
    refine Aa ?_
    refine V rfl ?_
    refine Al p 1 rfl (Af rfl rfl rfl rfl rfl rfl) rfl rfl rfl rfl rfl ?_
    intro dt c5
    refine Ab ?_
    refine Aa ?_
    refine V rfl ?_
    refine Ab ?_
    obtain rfl := so H
    exact And.intro rfl ⟨(Hp.pick c5 4 [2, 0, 1] rfl), (fl rfl)⟩}
    {
    have H := Av a7 H
    refine Aa ?_
    obtain ⟨ct, az, H⟩ := bind_some H
    rcases ct with ec | ed
    {
    refine Ai (Ah p az) rfl rfl rfl rfl ?_
    rintro _ du ⟨rfl, c6⟩
    refine Ab ?_
    obtain rfl := so H
    exact And.intro rfl ⟨(Hp.pick c6 4 [2, 0, 1] rfl), (fl rfl)⟩}
    {
    refine Aj (Ah p az) rfl rfl ?_
    intro dv c7
    obtain rfl := so H
    exact Fin.pan (C := cfg) (fn := Tryz.f127) ⟨rfl, (Hp.pick c7 4 [] rfl)⟩}}}}}
    {
    rcases ay with ⟨e, a2⟩ | dw
    {
    intro x dx dy hJ
    obtain ⟨rfl, c8, c9⟩ := hJ
    refine Be (F := [(2, (.ptr j 0)), (4, (.ptr a 0)), (5, (.ptr d 0)), (6, (vI e))]) c9 ?_
    refine Ac ?_
    refine Ac ?_
    refine Aa ?_
    refine V rfl ?_
    refine V rfl ?_
    refine Ab ?_
    refine Bb ?_
    obtain ⟨b0, be, H⟩ := bind_some H
    refine A4 (J := _) (D8 (fl rfl) (Cw (f := (fun m (i : (Int × (List Ae) × (List Ao)) × (A × A)) => Ge n (En n k) e m i.1.1 i.1.2.1 i.1.2.2)) (G := (fun (i : (Int × (List Ae) × (List Ao)) × (A × A)) => ([(2, (.ptr j 0)), (4, (.ptr a 0)), (5, (.ptr d 0)), (41, (vI e)), (42, (vI i.1.1))] : List (Nat × A)))) (I := (fun (i : (Int × (List Ae) × (List Ao)) × (A × A)) (s : St) => Sl A0 i.2.1 i.1.2.1 ∧ Sl Cm i.2.2 i.1.2.2 ∧ Hp s (.blk j (.cells [(vI 0), (vI 0), (vI 0), (vI 0), A5] 52) :: .blk a (.cells [i.2.1] 167) :: .blk d (.cells [(vI a2), (vI 0), (vI 0), (vI 0), i.2.2] 52) :: .app i.2.2 52 :: R))) (J := (fun (v : LR ((List Ae) × (List Ao)) (PR Ao Int)) (x : X) (φ : Fr) (s : St) => match v with | .out (b1, b2) => x = (.exit 2) ∧ (∃ (a8 q : A), Sl A0 a8 b1 ∧ Sl Cm q b2 ∧ Hp s (.blk j (.cells [(vI 0), (vI 0), (vI 0), (vI 0), A5] 52) :: .blk a (.cells [a8] 167) :: .blk d (.cells [(vI a2), (vI 0), (vI 0), (vI 0), q] 52) :: .app q 52 :: R) ∧ Fl [(2, (.ptr j 0)), (4, (.ptr a 0)), (5, (.ptr d 0))] φ) | .ret r => FinR cfg Tryz.f127 (Ie R r) x φ s)) (fun _ => rfl) ?_ n ((0, cr, ([] : List Ao)), (bu, A5)) _ b0 ⟨cs, Sl.nil, (Hp.pick (As c8 52) 4 [1, 2, 3, 0] rfl)⟩ be)) ?_
    {
    rintro m ⟨⟨g, ca, cb⟩, ⟨cc, cd⟩⟩ cu v ⟨a9, b3, ag⟩ H ih
    change Ge n (En n k) e (m + 1) g ca cb = some v at H
    rw [Ge] at H
    change Ec _ _ _ [(2, (.ptr j 0)), (4, (.ptr a 0)), (5, (.ptr d 0)), (41, (vI e)), (42, (vI g))] cu _
    refine Ac ?_
    refine Aa ?_
    refine V rfl ?_
    refine Ab ?_
    refine Ac ?_
    refine An (t := (decide (g < e))) rfl (fun y => ?_) (fun y => ?_)
    {
    have H := Au y H
    refine A7 ?_
    refine Ac ?_
    refine Bb ?_
    obtain ⟨b4, bf, H⟩ := bind_some H
    refine A4 (J := (fun (v : LR ((List Ae) × (List Ao)) (PR Ao Int)) (x : X) (φ : Fr) (s : St) => match v with | .out (aa, ab) => x = .normal ∧ (∃ (a0 u : A), Sl A0 a0 aa ∧ Sl Cm u ab ∧ Hp s (.blk j (.cells [(vI 0), (vI 0), (vI 0), (vI 0), A5] 52) :: .blk a (.cells [a0] 167) :: .blk d (.cells [(vI a2), (vI 0), (vI 0), (vI 0), u] 52) :: .app u 52 :: R) ∧ Fl [(2, (.ptr j 0)), (4, (.ptr a 0)), (5, (.ptr d 0)), (41, (vI e)), (42, (vI g))] φ) | .ret r => FinR cfg Tryz.f127 (Ie R r) x φ s) b4) ?_ ?_
    {
    have H := bf
    refine C5 (by kernel_rfl) ?_
    refine Az rfl rfl rfl rfl rfl rfl ?_
    refine Az (Ag ag 2 rfl rfl rfl rfl) rfl rfl rfl rfl rfl ?_
    refine Az rfl rfl rfl rfl rfl rfl ?_
    obtain ⟨ce, ah, H⟩ := bind_some H
    rcases ce with b5 | dz
    rotate_left
    {
    refine Bn (Bj a9 (Hp.pick ag 2 [1, 0] rfl) ah) rfl rfl rfl rfl rfl (by kernel_rfl) ?_
    intro cv bg
    obtain rfl := so H
    exact Bm (C := cfg) (fn := Tryz.f127) ⟨rfl, (Hp.pick bg 3 [] rfl)⟩}
    refine Bk (CaO.val (Bj a9 (Hp.pick ag 2 [1, 0] rfl) ah)) rfl rfl rfl rfl rfl (by obtain ⟨cf, cg⟩ := b5; rintro _ bh ⟨ch, b6, rfl, ac, b7, l⟩; exact (Ad rfl (B7 rfl (Ag l 2 rfl rfl rfl rfl) (Ad rfl A6)))) ?_
    obtain ⟨cf, cg⟩ := b5
    rintro _ bh ⟨ch, b6, rfl, ac, b7, l⟩
    obtain ⟨ci, ai, H⟩ := bind_some H
    rcases ci with b | e0
    rotate_left
    {
    refine Bn (ihR ac l ai) rfl rfl rfl rfl rfl (by kernel_rfl) ?_
    intro cw bi
    obtain rfl := so H
    exact Bm (C := cfg) (fn := Tryz.f127) ⟨rfl, (Hp.pick bi 4 [] rfl)⟩}
    refine Bk (CaO.val (ihR ac l ai)) rfl rfl rfl rfl rfl (by rintro _ bj ⟨w, rfl, b8, a1⟩; exact (Ad rfl (B7 rfl (Ag a1 3 rfl rfl rfl rfl) (Ad rfl A6)))) ?_
    rintro _ bj ⟨w, rfl, b8, a1⟩
    refine A9 (Cy (Am rfl rfl rfl rfl rfl Bc) rfl (Ak rfl rfl rfl) Tryz.underlying48 rfl rfl rfl rfl (by decide) rfl) rfl rfl rfl rfl (Ar rfl (Ar rfl A8)) ?_
    have cj : Sl Cm (.sl 5 [(vI b.f_Op), (vI b.f_W), (vI b.f_A), (vI b.f_B), w] .ex) ([b] : List Ao) := .inr ⟨_, _, rfl, (.cons (c := [(vI b.f_Op), (vI b.f_W), (vI b.f_A), (vI b.f_B), w]) (rTTerm_of ⟨w, rfl, b8⟩) .nil)⟩
    have bk := Dv a1 52 5 [(vI b.f_Op), (vI b.f_W), (vI b.f_A), (vI b.f_B), w]
    obtain ⟨e1, b9, H⟩ := bind_some H
    refine Js bk 5 rfl b3 (New.of cj) b9 rfl rfl rfl rfl rfl rfl rfl Tryz.underlying48 rfl Tryz.underlying48 rfl rfl rfl rfl rfl rfl rfl rfl (fun a' σ' h' hp' => ((Ad rfl (Ad rfl (Bd (by kernel_rfl) (Ad rfl A6)))))) ?_
    intro ck cx ad bl
    refine A9 rfl rfl rfl rfl rfl (Ar rfl (Ar rfl (Ar rfl A8))) ?_
    refine Gm bl 4 rfl (Af (ad.cells) rfl rfl (by exact on ad.isOne on0) rfl rfl) rfl rfl rfl rfl rfl (fun σ' hp' => ((Ad rfl (Ad rfl (Ad rfl (Bd (by kernel_rfl) (Ad rfl A6))))))) ?_
    intro cy bm
    refine Dh ?_
    obtain rfl := so H
    exact And.intro rfl ⟨b6, ck, b7, ad, (Hp.pick bm 4 [3, 2] rfl), (fl rfl)⟩}
    {
    rcases b4 with ⟨aa, ab⟩ | e2
    {
    intro x cz d0 hJ
    obtain ⟨rfl, a0, u, cl, cm, bn, bo⟩ := hJ
    refine Be (F := [(2, (.ptr j 0)), (4, (.ptr a 0)), (5, (.ptr d 0)), (41, (vI e)), (42, (vI g))]) bo ?_
    refine Aa ?_
    refine V rfl ?_
    refine V rfl ?_
    refine Ab ?_
    exact Be (fl rfl) (ih (((IntKind.wrap .i64 (g + 1)), aa, ab), (a0, u)) _ ⟨cl, cm, bn⟩ H)}
    {
    intro x d1 d2 hJ
    obtain rfl := so H
    cases x <;> first | exact hJ | exact hJ.elim}}}
    {
    have H := Av y H
    refine D9 ?_
    obtain rfl := so H
    exact And.intro rfl ⟨cc, cd, a9, b3, ag, (fl rfl)⟩}}
    {
    rcases b0 with ⟨b1, b2⟩ | e3
    {
    intro x d3 d4 hJ
    obtain ⟨rfl, a8, q, ba, bb, aj, bp⟩ := hJ
    refine Be (F := [(2, (.ptr j 0)), (4, (.ptr a 0)), (5, (.ptr d 0))]) bp ?_
    refine Ac ?_
    refine Aa ?_
    refine V rfl ?_
    obtain ⟨cn, ak, H⟩ := bind_some H
    rcases cn with e4 | e5
    {
    refine Ai (Gk ba (Hp.pick aj 2 [1, 0] rfl) ak) rfl rfl rfl rfl ?_
    rintro _ d5 ⟨rfl, al⟩
    refine Ab ?_
    refine Ac ?_
    refine Aa ?_
    refine W (Ag al 2 rfl rfl rfl rfl) rfl ?_
    refine Al al 1 rfl (Af rfl rfl rfl (by exact on rfl (on rfl (on rfl (on rfl (on bb.isOne on0))))) rfl rfl) rfl rfl rfl rfl rfl ?_
    intro d6 am
    refine Ab ?_
    obtain rfl := so H
    refine Aw ?_
    refine Fin.mk' (Bf am 1 rfl rfl rfl rfl) ?_
    exact ⟨q, rfl, bb, (Hp.pick am 3 [] rfl)⟩}
    {
    refine Aj (Gk ba (Hp.pick aj 2 [1, 0] rfl) ak) rfl rfl ?_
    intro d7 bq
    obtain rfl := so H
    exact Fin.pan (C := cfg) (fn := Tryz.f127) ⟨rfl, (Hp.pick bq 3 [] rfl)⟩}}
    {
    intro x d8 d9 hJ
    obtain rfl := so H
    cases x <;> first | exact hJ | exact hJ.elim}}}
    {
    intro x da db hJ
    obtain rfl := so H
    cases x <;> first | exact hJ | exact hJ.elim}}}
    {
    refine Aj (A1 bt (Hp.pick aw 2 [1, 0] rfl) af) rfl rfl ?_
    intro dc br
    obtain rfl := so H
    exact Fin.pan (C := cfg) (fn := Tryz.f127) ⟨rfl, (Hp.pick br 3 [] rfl)⟩}}
    {
    refine Aj (Bo ao o ae) rfl rfl ?_
    intro dd bs
    obtain rfl := so H
    exact Fin.pan (C := cfg) (fn := Tryz.f127) ⟨rfl, (Hp.pick bs 2 [] rfl)⟩}}}

theorem gisadl_calc_ok {n : Nat} {a : Ae} {b : A} {R : List Res} {σ : St} (c : Sl A0 b a.f_Kids) (hp : Hp σ R) {r : (PR Ao Int)} (H : gisadl_calc n a = some r) : CaO cfg 127 [(.agg [(vI a.f_Kind), (vS a.f_Word), (vI a.f_Num), b])] σ (Ie R r) := gisadl_calc_rec_ok n c hp H

theorem gisadl_check_ok {n : Nat} {e : Nat} {b : Nat} {bm_p2 : Nat} {ca : Eq} {a7 : (List Ae)} {af : (List (ByteArray × Bool))} {b8 : (List A)} {cb : A} {R : List Res} {σ : St} (a8 : rTRel.rep ca b8) (cc : Sl A0 cb a7) (hp : Hp σ (gTRel e b8 (.blk b (.cells [cb] 167) :: .blk bm_p2 (mapG vB af) :: R))) {r : (PR (Eq × (List Ae) × (List (ByteArray × Bool))) Int)} (H : gisadl_check n ca a7 af = some r) : CaO cfg 128 [(.ptr e 0), (.ptr b 0), (.mp bm_p2)] σ (gisadl_check_post e b bm_p2 R r) := by
 unfold gisadl_check at H
 refine CaO.enterL (G := [(0, (.ptr e 0)), (1, (.ptr b 0)), (2, (.mp bm_p2))]) Tryz.func128 rfl rfl rfl rfl (Ac (Aa (V rfl ?_)))
 obtain ⟨b9, u, H⟩ := bind_some H
 rcases b9 with ba | d4
 {
 refine Ai (A1 cc (Hp.pick hp 3 [2, 0, 1] rfl) u) rfl rfl rfl rfl ?_
 obtain ⟨e0, dz⟩ := ba
 rintro _ d5 ⟨b7, rfl, f, bb⟩
 refine V rfl (Ab (Ac (Aa (V rfl (V rfl ?_)))))
 refine Ab (Ac (Aa ?_))
 refine Eo.val (x := (.sl 1 [(vS (ByteArray.mk #[])), (vS (ByteArray.mk #[115, 105, 103, 110, 101, 100])), (vS (ByteArray.mk #[117, 110, 115, 105, 103, 110, 101, 100])), (vS (ByteArray.mk #[101, 105, 116, 104, 101, 114]))] .ex)) (Cy (Am rfl rfl rfl rfl rfl (Am rfl rfl rfl rfl rfl (Am rfl rfl rfl rfl rfl (Am rfl rfl rfl rfl rfl Bc)))) rfl (Ak rfl rfl (Ak rfl rfl (Ak rfl rfl (Ak rfl rfl rfl)))) Tryz.underlying29 rfl rfl rfl rfl (by decide) rfl) rfl rfl rfl ?_
 have cd : Sl rS (.sl 1 [(vS (ByteArray.mk #[])), (vS (ByteArray.mk #[115, 105, 103, 110, 101, 100])), (vS (ByteArray.mk #[117, 110, 115, 105, 103, 110, 101, 100])), (vS (ByteArray.mk #[101, 105, 116, 104, 101, 114]))] .ex) ([(ByteArray.mk #[]), (ByteArray.mk #[115, 105, 103, 110, 101, 100]), (ByteArray.mk #[117, 110, 115, 105, 103, 110, 101, 100]), (ByteArray.mk #[101, 105, 116, 104, 101, 114])] : List ByteArray) := .inr ⟨_, _, rfl, (.cons (c := [(vS (ByteArray.mk #[]))]) rfl (.cons (c := [(vS (ByteArray.mk #[115, 105, 103, 110, 101, 100]))]) rfl (.cons (c := [(vS (ByteArray.mk #[117, 110, 115, 105, 103, 110, 101, 100]))]) rfl (.cons (c := [(vS (ByteArray.mk #[101, 105, 116, 104, 101, 114]))]) rfl .nil))))⟩
 have bc := Dv bb 9 1 [(vS (ByteArray.mk #[])), (vS (ByteArray.mk #[115, 105, 103, 110, 101, 100])), (vS (ByteArray.mk #[117, 110, 115, 105, 103, 110, 101, 100])), (vS (ByteArray.mk #[101, 105, 116, 104, 101, 114]))]
 refine V rfl ?_
 obtain ⟨a9, ag, H⟩ := bind_some H
 refine A2 rfl rfl rfl rfl (H4 cd bc ag) ?_
 rintro _ d6 ⟨rfl, aa⟩
 refine V rfl (Ab (Ac (Ac (Aa (V rfl ?_)))))
 refine V rfl (Ab ?_)
 obtain ⟨g, ah, H⟩ := bind_some H
 refine A4 (J := (fun (g : ByteArray) (x : X) (φ : Fr) (s : St) => x = .normal ∧ (Hp s (gTRel e b8 (.blk b (.cells [b7] 167) :: .blk bm_p2 (mapG vB af) :: R)) ∧ Fl [(0, (.ptr e 0)), (1, (.ptr b 0)), (2, (.mp bm_p2)), (7, (vS g)), (8, (vI a9))] φ)) g) ?_ ?_
 {
 have H := ah
 refine An (t := (decide (a9 > 0))) rfl (fun m => ?_) (fun m => ?_)
 {
 have H := Au m H
 refine Aa (V rfl (Ab ?_))
 obtain rfl := so H
 exact And.intro rfl ⟨(Hp.pick aa 4 [2, 3, 1] rfl), (fl rfl)⟩}
 {
 have H := Av m H
 refine A7 ?_
 obtain rfl := so H
 exact And.intro rfl ⟨(Hp.pick aa 4 [2, 3, 1] rfl), (fl rfl)⟩}}
 {
 intro x d7 d8 hJ
 obtain ⟨rfl, o, bd⟩ := hJ
 refine Be (F := [(0, (.ptr e 0)), (1, (.ptr b 0)), (2, (.mp bm_p2)), (7, (vS g)), (8, (vI a9))]) bd (Ac (Aa (V rfl (V rfl (W (op_lookG (d := false) o 3 rfl rfl rfl rfl rfl rfl) rfl ?_)))))
 refine V rfl ?_
 obtain ⟨be, w, H⟩ := bind_some H
 rcases be with d9 | da
 {
 refine Ai (Ah o w) rfl rfl rfl rfl ?_
 rintro _ db ⟨rfl, bf⟩
 refine Ab (Ac (Aa (V rfl (V rfl (Eo.mapUG (v := true) bf 3 rfl rfl rfl rfl rfl rfl rfl rfl ?_)))))
 intro dc a
 refine Ab (Ac (Aa (V rfl (Ab (Ac ?_)))))
 refine Ac (Aa (V rfl (Ab ?_)))
 obtain ⟨ab, ai, H⟩ := bind_some H
 refine A4 (J := (fun (v : LR ((List Ae) × Eq) (PR (Eq × (List Ae) × (List (ByteArray × Bool))) Int)) (x : X) (φ : Fr) (s : St) => match v with | .out (ac, ad) => x = .normal ∧ (∃ (h : A) (p : (List A)), Sl A0 h ac ∧ rTRel.rep ad p ∧ Hp s (.blk b (.cells [h] 167) :: (gTRel e p (.blk bm_p2 (mapG vB (updG af g true)) :: R))) ∧ Fl [(1, (.ptr b 0))] φ) | .ret r => FinR cfg Tryz.f128 (gisadl_check_post e b bm_p2 R r) x φ s) ab) ?_ ?_
 {
 have H := ai
 refine Bb (Ac (Aa (W (B9 rfl (Bi _ _)) rfl (V rfl (Ab ?_)))))
 refine An (t := (decide (g = (ByteArray.mk #[115, 105, 103, 110])))) rfl (fun i => ?_) (fun i => ?_)
 {
 have H := Au i H
 refine Ac (Aa (V rfl ?_))
 obtain ⟨bg, y, H⟩ := bind_some H
 rcases bg with bh | dd
 {
 refine Ai (Bg f (Hp.pick a 3 [2, 0, 1] rfl) y) rfl rfl rfl rfl ?_
 obtain ⟨de, df⟩ := bh
 rintro _ ce ⟨bi, rfl, bj, aj⟩
 refine V rfl (Ab (Aa ?_))
 iterate 6 refine V rfl ?_
 obtain ⟨bk, rfl, bl⟩ := a8
 refine Al aj 1 rfl (Af rfl rfl rfl rfl rfl rfl) rfl rfl rfl rfl rfl ?_
 intro cf ak
 refine V rfl (V rfl (Al ak 1 rfl (Af rfl rfl rfl rfl rfl rfl) rfl rfl rfl rfl rfl ?_))
 intro cg al
 refine Ab ?_
 obtain rfl := so H
 exact And.intro rfl ⟨bi, _, bj, ⟨bk, rfl, bl⟩, al, (fl rfl)⟩}
 {
 refine Aj (Bg f (Hp.pick a 3 [2, 0, 1] rfl) y) rfl rfl ?_
 intro ch am
 obtain rfl := so H
 exact Fin.pan (C := cfg) (fn := Tryz.f128) ⟨rfl, (Hp.pick am 3 [] rfl)⟩}}
 {
 have H := Av i H
 refine Ac (Aa (W (B9 rfl (Bi _ _)) rfl (V rfl (Ab ?_))))
 refine An (t := (decide (g = (ByteArray.mk #[97, 108, 105, 103, 110])))) rfl (fun j => ?_) (fun j => ?_)
 {
 have H := Au j H
 refine Aa (V rfl (V rfl ?_))
 obtain ⟨bm, z, H⟩ := bind_some H
 rcases bm with bn | dg
 {
 refine Ai (Bg f (Hp.pick a 3 [2, 0, 1] rfl) z) rfl rfl rfl rfl ?_
 obtain ⟨dh, di⟩ := bn
 rintro _ ci ⟨bo, rfl, bp, an⟩
 refine V rfl (V rfl ?_)
 obtain ⟨bq, rfl, br⟩ := a8
 refine Al an 1 rfl (Af rfl rfl rfl rfl rfl rfl) rfl rfl rfl rfl rfl ?_
 intro cj ao
 refine Ab ?_
 obtain rfl := so H
 exact And.intro rfl ⟨bo, _, bp, ⟨bq, rfl, br⟩, ao, (fl rfl)⟩}
 {
 refine Aj (Bg f (Hp.pick a 3 [2, 0, 1] rfl) z) rfl rfl ?_
 intro ck ap
 obtain rfl := so H
 exact Fin.pan (C := cfg) (fn := Tryz.f128) ⟨rfl, (Hp.pick ap 3 [] rfl)⟩}}
 {
 have H := Av j H
 refine Ac (Aa (W (B9 rfl (Bi _ _)) rfl (V rfl (Ab ?_))))
 refine An (t := (decide (g = (ByteArray.mk #[114, 111, 117, 110, 100])))) rfl (fun k => ?_) (fun k => ?_)
 {
 have H := Au k H
 refine Aa (V rfl (V rfl ?_))
 obtain ⟨bs, a0, H⟩ := bind_some H
 rcases bs with bt | dj
 {
 refine Ai (Bg f (Hp.pick a 3 [2, 0, 1] rfl) a0) rfl rfl rfl rfl ?_
 obtain ⟨dk, dl⟩ := bt
 rintro _ cl ⟨bu, rfl, bv, aq⟩
 refine V rfl (V rfl ?_)
 obtain ⟨bw, rfl, bx⟩ := a8
 refine Al aq 1 rfl (Af rfl rfl rfl rfl rfl rfl) rfl rfl rfl rfl rfl ?_
 intro cm ar
 refine Ab ?_
 obtain rfl := so H
 exact And.intro rfl ⟨bu, _, bv, ⟨bw, rfl, bx⟩, ar, (fl rfl)⟩}
 {
 refine Aj (Bg f (Hp.pick a 3 [2, 0, 1] rfl) a0) rfl rfl ?_
 intro cn au
 obtain rfl := so H
 exact Fin.pan (C := cfg) (fn := Tryz.f128) ⟨rfl, (Hp.pick au 3 [] rfl)⟩}}
 {
 have H := Av k H
 refine Ac (Aa (W (B9 rfl (Bi _ _)) rfl (V rfl (Ab ?_))))
 refine An (t := (decide (g = (ByteArray.mk #[115, 108, 105, 99, 101])))) rfl (fun l => ?_) (fun l => ?_)
 {
 have H := Au l H
 refine Ac (Aa (V rfl (V rfl ?_)))
 obtain ⟨bz, a1, H⟩ := bind_some H
 rcases bz with c0 | dm
 {
 refine Ai (Bg f (Hp.pick a 3 [2, 0, 1] rfl) a1) rfl rfl rfl rfl ?_
 obtain ⟨dn, dp⟩ := c0
 rintro _ co ⟨dq, rfl, ae, av⟩
 refine V rfl (V rfl ?_)
 obtain ⟨c1, rfl, c2⟩ := a8
 refine Al av 1 rfl (Af rfl rfl rfl rfl rfl rfl) rfl rfl rfl rfl rfl ?_
 intro cp a2
 refine Ab (Aa (V rfl (V rfl ?_)))
 obtain ⟨c3, a3, H⟩ := bind_some H
 rcases c3 with c4 | dr
 {
 refine Ai (Bg ae a2 a3) rfl rfl rfl rfl ?_
 obtain ⟨ds, dt⟩ := c4
 rintro _ cq ⟨c5, rfl, c6, aw⟩
 refine V rfl (V rfl (Al aw 1 rfl (Af rfl rfl rfl rfl rfl rfl) rfl rfl rfl rfl rfl ?_))
 intro cr ax
 refine Ab ?_
 obtain rfl := so H
 exact And.intro rfl ⟨c5, _, c6, ⟨c1, rfl, c2⟩, ax, (fl rfl)⟩}
 {
 refine Aj (Bg ae a2 a3) rfl rfl ?_
 intro cs ay
 obtain rfl := so H
 exact Fin.pan (C := cfg) (fn := Tryz.f128) ⟨rfl, (Hp.pick ay 3 [] rfl)⟩}}
 {
 refine Aj (Bg f (Hp.pick a 3 [2, 0, 1] rfl) a1) rfl rfl ?_
 intro ct az
 obtain rfl := so H
 exact Fin.pan (C := cfg) (fn := Tryz.f128) ⟨rfl, (Hp.pick az 3 [] rfl)⟩}}
 {
 have H := Av l H
 refine Aa ?_
 obtain ⟨c7, a4, H⟩ := bind_some H
 rcases c7 with du | dv
 {
 refine Ai (Ah a a4) rfl rfl rfl rfl ?_
 rintro _ cu ⟨rfl, b0⟩
 refine Ab ?_
 obtain rfl := so H
 exact And.intro rfl ⟨b7, _, f, a8, (Hp.pick b0 3 [2, 0, 1] rfl), (fl rfl)⟩}
 {
 refine Aj (Ah a a4) rfl rfl ?_
 intro cv b1
 obtain rfl := so H
 exact Fin.pan (C := cfg) (fn := Tryz.f128) ⟨rfl, (Hp.pick b1 4 [] rfl)⟩}}}}}}
 {
 rcases ab with ⟨ac, ad⟩ | dw
 {
 intro x cw cx hJ
 obtain ⟨rfl, h, p, q, c8, a5, b2⟩ := hJ
 refine Be (F := [(1, (.ptr b 0))]) b2 (Aa (V rfl ?_))
 obtain ⟨c9, a6, H⟩ := bind_some H
 rcases c9 with dx | dy
 {
 refine Ai (Gk q a5 a6) rfl rfl rfl rfl ?_
 rintro _ cy ⟨rfl, b3⟩
 refine Ab ?_
 obtain rfl := so H
 refine Fin.mkN (C := cfg) (fn := Tryz.f128) rfl ?_
 exact ⟨_, h, rfl, c8, q, (Hp.pick b3 4 [1, 0, 3, 2] rfl)⟩}
 {
 refine Aj (Gk q a5 a6) rfl rfl ?_
 intro cz b4
 obtain rfl := so H
 exact Fin.pan (C := cfg) (fn := Tryz.f128) ⟨rfl, (Hp.pick b4 3 [] rfl)⟩}}
 {
 intro x d0 d1 hJ
 obtain rfl := so H
 cases x <;> first | exact hJ | exact hJ.elim}}}
 {
 refine Aj (Ah o w) rfl rfl ?_
 intro d2 b5
 obtain rfl := so H
 exact Fin.pan (C := cfg) (fn := Tryz.f128) ⟨rfl, (Hp.pick b5 4 [] rfl)⟩}}}
 {
 refine Aj (A1 cc (Hp.pick hp 3 [2, 0, 1] rfl) u) rfl rfl ?_
 intro d3 b6
 obtain rfl := so H
 exact Fin.pan (C := cfg) (fn := Tryz.f128) ⟨rfl, (Hp.pick b6 3 [] rfl)⟩}

theorem gisadl_place_1_131_83_ok {n : Nat} {b : Nat} {c : Nat} {d : F0} {a : ByteArray} {i : A} {j : A} {k : A} {R : List Res} {σ : St} (p : Sl rTArg i d.f_Args) (q : Sl Hm j d.f_Pieces) (t : Sl Cm k d.f_Sem) (hp : Hp σ (.blk b (.cells [(.fn (.func 83) [] [])] 149) :: .blk c (.cells [(vS a)] 9) :: R)) {r : Bool} (H : Jc n d a = some r) : Ca cfg 131 [(.agg [(vS d.f_Name), (vS d.f_Syntax), i, j, k]), (.ptr b 0), (.ptr c 0)] σ (gisadl_place_1_131_83_post b c a R r) := by
 unfold Jc at H
 refine Ca.enterL (G := [(0, (.agg [(vS d.f_Name), (vS d.f_Syntax), i, j, k])), (1, (.ptr b 0)), (2, (.ptr c 0))]) Tryz.func131 rfl rfl rfl rfl (Ac (Aa (Cb hp rfl (by exact on rfl (on rfl (on p.isOne (on q.isOne (on t.isOne on0))))) rfl rfl rfl rfl rfl ?_)))
 intro a0 y e
 refine V rfl (Ab (Ac ?_))
 obtain ⟨f, l, H⟩ := bind_some H
 refine A4 (J := (fun (f : Bool) (x : X) (φ : Fr) (s : St) => x = .normal ∧ (Hp s (.blk b (.cells [(.fn (.func 83) [] [])] 149) :: .blk c (.cells [(vS a)] 9) :: R) ∧ Fl [(4, (vB f))] φ)) f) ?_ ?_
 {
 have H := l
 refine Fw (by kernel_rfl) (Az (Ag e 1 rfl rfl rfl rfl) rfl rfl rfl rfl rfl (Az (Ag e 0 rfl rfl rfl rfl) rfl rfl rfl rfl rfl ?_))
 obtain ⟨z, h, H⟩ := bind_some H
 refine Bk (gisadl_formName_ok p q t e h) rfl rfl rfl rfl rfl (fun _ _ _ => (Bd (by kernel_rfl) (Bd (by kernel_rfl) A6))) ?_
 rintro _ u ⟨rfl, g⟩
 refine A9 (Ag g 2 rfl rfl rfl rfl) rfl rfl rfl rfl (stP_op rfl (Ag e 2 rfl rfl rfl rfl) A8) (A9 (B9 rfl (Bi _ _)) rfl rfl rfl rfl (Ar rfl A8) (A9 rfl rfl rfl rfl rfl (Ar rfl A8) (Dh ?_)))
 obtain rfl := so H
 exact And.intro rfl (And.intro rfl ⟨(Hp.pick g 1 [] rfl), (fl rfl)⟩)}
 {
 intro x v w hJ
 obtain ⟨rfl, m, o⟩ := hJ
 refine Be (F := [(4, (vB f))]) o ?_
 obtain rfl := so H
 refine Aw (Ret.mk rfl ?_)
 exact ⟨rfl, m⟩}

theorem gslices_IndexFunc_130_131_83_ok {n : Nat} {b : Nat} {c : Nat} {d : (List F0)} {a : ByteArray} {j : A} {R : List Res} {σ : St} (y : Sl rTForm j d) (hp : Hp σ (.blk b (.cells [(.fn (.func 83) [] [])] 149) :: .blk c (.cells [(vS a)] 9) :: R)) {r : Int} (H : D0 n d a = some r) : Ca cfg 130 [j, (.fn (.func 131) [] [(.ptr b 0), (.ptr c 0)])] σ (Ht b c a R r) := by
 unfold D0 at H
 refine Ca.enterL (G := [(0, j), (1, (.fn (.func 131) [] [(.ptr b 0), (.ptr c 0)]))]) Tryz.func130 rfl rfl rfl rfl (Ac (Aa (V rfl (Ab (Ac ?_)))))
 refine Ac (Aa (V rfl (W (Cj y rfl rfl rfl rfl rfl Tryz.underlying31) rfl (V rfl (Ab ?_)))))
 refine Bb ?_
 obtain ⟨o, q, H⟩ := bind_some H
 refine A4 (J := _) (D8 (fl rfl) (Cw (f := (fun m (i : Int × Unit) => B2 n d a m i.1)) (G := (fun (i : Int × Unit) => ([(0, j), (1, (.fn (.func 131) [] [(.ptr b 0), (.ptr c 0)])), (7, (vI ((d.length : Nat) : Int))), (8, (vI i.1))] : List (Nat × A)))) (I := (fun (i : Int × Unit) (s : St) => Hp s (.blk b (.cells [(.fn (.func 83) [] [])] 149) :: .blk c (.cells [(vS a)] 9) :: R))) (J := (fun (v : LR Unit Int) (x : X) (φ : Fr) (s : St) => match v with | .out _ => x = (.exit 0) ∧ (Hp s (.blk b (.cells [(.fn (.func 83) [] [])] 149) :: .blk c (.cells [(vS a)] 9) :: R) ∧ Fl [] φ) | .ret r => x = .ret ∧ Ret cfg Tryz.f130 (Ht b c a R r) .ret φ s)) (fun _ => rfl) ?_ n (0, ()) _ o hp q)) ?_
 {
 rintro m ⟨h, _⟩ z v p H ih
 change B2 n d a (m + 1) h = some v at H
 rw [B2] at H
 change Ec _ _ _ [(0, j), (1, (.fn (.func 131) [] [(.ptr b 0), (.ptr c 0)])), (7, (vI ((d.length : Nat) : Int))), (8, (vI h))] z _
 refine Ac (Aa (V rfl (Ab (Ac ?_))))
 refine An (t := (decide (h < ((d.length : Nat) : Int)))) rfl (fun e => ?_) (fun e => ?_)
 {
 have H := Au e H
 refine A7 (Ac (Bb (Ac (Aa (V rfl ?_)))))
 refine V rfl (Ab (Ac (Aa ?_)))
 iterate 3 refine V rfl ?_
 obtain ⟨aa, hvx35, H⟩ := bind_some H
 refine F8 y hvx35 rfl rfl rfl Tryz.underlying31 rfl rfl rfl rfl ?_
 rintro a4 ab _ hat38 ⟨ac, ad, ae, rfl, a0, a1, a2⟩
 refine W (Eb hat38 0 rfl rfl rfl rfl rfl rfl) rfl ?_
 obtain ⟨a3, l, H⟩ := bind_some H
 refine A2 rfl rfl rfl rfl (gisadl_place_1_131_83_ok a0 a1 a2 p l) ?_
 rintro _ a5 ⟨rfl, k⟩
 refine Ab ?_
 refine An (t := a3) rfl (fun g => ?_) (fun g => ?_)
 {
 have H := Au g H
 refine Ac (Aa (V rfl (V rfl (Ab ?_))))
 obtain rfl := so H
 refine Aw ?_
 refine And.intro rfl (Ret.mk rfl ?_)
 exact ⟨rfl, k⟩}
 {
 have H := Av g H
 refine A7 (Aa (V rfl (V rfl (Ab ?_))))
 exact Be (fl rfl) (ih ((IntKind.wrap .i64 (h + 1)), ()) _ k H)}}
 {
 have H := Av e H
 refine D9 ?_
 obtain rfl := so H
 exact And.intro rfl ⟨p, (.nil')⟩}}
 {
 rcases o with _ | af
 {
 intro x a6 a7 hJ
 obtain ⟨rfl, u, w⟩ := hJ
 refine Be (F := []) w (Ac (Aa (V rfl (Ab ?_))))
 obtain rfl := so H
 refine Aw (Ret.mk rfl ?_)
 exact ⟨rfl, u⟩}
 {
 intro x a8 a9 hJ
 obtain rfl := so H
 obtain ⟨rfl, hr⟩ := hJ
 exact hr}}

theorem gisadl_place_82_83_ok {n : Nat} {h : (List F0)} {c : ByteArray} {d : A} {R : List Res} {σ : St} (l : Sl rTForm d h) (hp : Hp σ R) {r : (PR Int Int)} (H : Hj n h c = some r) : CaO cfg 82 [d, (vS c), (.fn (.func 83) [] [])] σ (gisadl_place_82_83_post R r) := by
 unfold Hj at H
 refine CaO.enterL (G := [(0, d), (1, (vS c)), (2, (.fn (.func 83) [] []))]) Tryz.func82 rfl rfl rfl rfl (Ac (Aa (Cb hp rfl rfl rfl rfl rfl rfl rfl ?_)))
 intro v q i
 refine Cb i rfl rfl rfl rfl rfl rfl rfl ?_
 intro w s j
 refine V rfl (Ab (Ac (Aa (V rfl (V rfl ?_)))))
 obtain ⟨x, e, H⟩ := bind_some H
 refine A2 rfl rfl rfl rfl (gslices_IndexFunc_130_131_83_ok l j e) ?_
 rintro _ m ⟨rfl, a⟩
 refine V rfl (Ab (Ac (Aa (V rfl (V rfl ?_)))))
 obtain ⟨k, b, H⟩ := bind_some H
 rcases k with t | u
 {
 refine Ai (Ah a b) rfl rfl rfl rfl ?_
 rintro _ o ⟨rfl, f⟩
 refine Ab (Ac (Aa (V rfl (V rfl (Ab ?_)))))
 obtain rfl := so H
 refine Aw (Fin.mk rfl ?_)
 exact ⟨rfl, (Hp.pick f 2 [] rfl)⟩}
 {
 refine Aj (Ah a b) rfl rfl ?_
 intro p g
 obtain rfl := so H
 exact Fin.pan (C := cfg) (fn := Tryz.f82) ⟨rfl, (Hp.pick g 2 [] rfl)⟩}

theorem gisadl_numName_ok {n : Nat} {a : Fx} {R : List Res} {σ : St} (hp : Hp σ R) {r : ByteArray} (H : gisadl_numName n a = some r) : Ca cfg 85 [(.agg [(vS a.f_Name), (vI a.f_Num)])] σ (gisadl_numName_post R r) := by
 unfold gisadl_numName at H
 refine Ca.enterL (G := [(0, (.agg [(vS a.f_Name), (vI a.f_Num)]))]) Tryz.func85 rfl rfl rfl rfl (Ac (Aa (Cb hp rfl rfl rfl rfl rfl rfl rfl ?_)))
 intro d c b
 refine V rfl (Ab (Ac (Aa (V rfl (W (Ag b 0 rfl rfl rfl rfl) rfl ?_)))))
 refine V rfl (Ab ?_)
 obtain rfl := so H
 refine Aw (Ret.mk rfl ?_)
 exact ⟨rfl, (Hp.pick b 1 [] rfl)⟩

theorem gisadl_fresh_1_133_85_ok {n : Nat} {b : Nat} {c : Nat} {e : Fx} {a : ByteArray} {R : List Res} {σ : St} (hp : Hp σ (.blk b (.cells [(.fn (.func 85) [] [])] 151) :: .blk c (.cells [(vS a)] 9) :: R)) {r : Bool} (H : Jd n e a = some r) : Ca cfg 133 [(.agg [(vS e.f_Name), (vI e.f_Num)]), (.ptr b 0), (.ptr c 0)] σ (gisadl_fresh_1_133_85_post b c a R r) := by
 unfold Jd at H
 refine Ca.enterL (G := [(0, (.agg [(vS e.f_Name), (vI e.f_Num)])), (1, (.ptr b 0)), (2, (.ptr c 0))]) Tryz.func133 rfl rfl rfl rfl (Ac (Aa (Cb hp rfl rfl rfl rfl rfl rfl rfl ?_)))
 intro q p d
 refine V rfl (Ab (Ac ?_))
 obtain ⟨f, h, H⟩ := bind_some H
 refine A4 (J := (fun (f : Bool) (x : X) (φ : Fr) (s : St) => x = .normal ∧ (Hp s (.blk b (.cells [(.fn (.func 85) [] [])] 151) :: .blk c (.cells [(vS a)] 9) :: R) ∧ Fl [(4, (vB f))] φ)) f) ?_ ?_
 {
 have H := h
 refine Fw (by kernel_rfl) (Az (Ag d 1 rfl rfl rfl rfl) rfl rfl rfl rfl rfl (Az (Ag d 0 rfl rfl rfl rfl) rfl rfl rfl rfl rfl ?_))
 obtain ⟨t, i, H⟩ := bind_some H
 refine Bk (gisadl_numName_ok d i) rfl rfl rfl rfl rfl (fun _ _ _ => (Bd (by kernel_rfl) (Bd (by kernel_rfl) A6))) ?_
 rintro _ l ⟨rfl, g⟩
 refine A9 (Ag g 2 rfl rfl rfl rfl) rfl rfl rfl rfl (stP_op rfl (Ag d 2 rfl rfl rfl rfl) A8) (A9 (B9 rfl (Bi _ _)) rfl rfl rfl rfl (Ar rfl A8) (A9 rfl rfl rfl rfl rfl (Ar rfl A8) (Dh ?_)))
 obtain rfl := so H
 exact And.intro rfl (And.intro rfl ⟨(Hp.pick g 1 [] rfl), (fl rfl)⟩)}
 {
 intro x m o hJ
 obtain ⟨rfl, j, k⟩ := hJ
 refine Be (F := [(4, (vB f))]) k ?_
 obtain rfl := so H
 refine Aw (Ret.mk rfl ?_)
 exact ⟨rfl, j⟩}

theorem gslices_IndexFunc_173_133_85_ok {n : Nat} {b : Nat} {c : Nat} {d : (List Fx)} {a : ByteArray} {j : A} {R : List Res} {σ : St} (y : Sl rTNamed j d) (hp : Hp σ (.blk b (.cells [(.fn (.func 85) [] [])] 151) :: .blk c (.cells [(vS a)] 9) :: R)) {r : Int} (H : D1 n d a = some r) : Ca cfg 173 [j, (.fn (.func 133) [] [(.ptr b 0), (.ptr c 0)])] σ (Hu b c a R r) := by
 unfold D1 at H
 refine Ca.enterL (G := [(0, j), (1, (.fn (.func 133) [] [(.ptr b 0), (.ptr c 0)]))]) Tryz.func173 rfl rfl rfl rfl (Ac (Aa (V rfl (Ab (Ac ?_)))))
 refine Ac (Aa (V rfl (W (Cj y rfl rfl rfl rfl rfl Tryz.underlying36) rfl (V rfl (Ab ?_)))))
 refine Bb ?_
 obtain ⟨o, q, H⟩ := bind_some H
 refine A4 (J := _) (D8 (fl rfl) (Cw (f := (fun m (i : Int × Unit) => B3 n d a m i.1)) (G := (fun (i : Int × Unit) => ([(0, j), (1, (.fn (.func 133) [] [(.ptr b 0), (.ptr c 0)])), (7, (vI ((d.length : Nat) : Int))), (8, (vI i.1))] : List (Nat × A)))) (I := (fun (i : Int × Unit) (s : St) => Hp s (.blk b (.cells [(.fn (.func 85) [] [])] 151) :: .blk c (.cells [(vS a)] 9) :: R))) (J := (fun (v : LR Unit Int) (x : X) (φ : Fr) (s : St) => match v with | .out _ => x = (.exit 0) ∧ (Hp s (.blk b (.cells [(.fn (.func 85) [] [])] 151) :: .blk c (.cells [(vS a)] 9) :: R) ∧ Fl [] φ) | .ret r => x = .ret ∧ Ret cfg Tryz.f173 (Hu b c a R r) .ret φ s)) (fun _ => rfl) ?_ n (0, ()) _ o hp q)) ?_
 {
 rintro m ⟨h, _⟩ z v p H ih
 change B3 n d a (m + 1) h = some v at H
 rw [B3] at H
 change Ec _ _ _ [(0, j), (1, (.fn (.func 133) [] [(.ptr b 0), (.ptr c 0)])), (7, (vI ((d.length : Nat) : Int))), (8, (vI h))] z _
 refine Ac (Aa (V rfl (Ab (Ac ?_))))
 refine An (t := (decide (h < ((d.length : Nat) : Int)))) rfl (fun e => ?_) (fun e => ?_)
 {
 have H := Au e H
 refine A7 (Ac (Bb (Ac (Aa (V rfl ?_)))))
 refine V rfl (Ab (Ac (Aa ?_)))
 iterate 3 refine V rfl ?_
 obtain ⟨a7, hvx23, H⟩ := bind_some H
 refine F8 y hvx23 rfl rfl rfl Tryz.underlying36 rfl rfl rfl rfl ?_
 rintro a1 a8 _ hat26 rfl
 refine W (Eb hat26 0 rfl rfl rfl rfl rfl rfl) rfl ?_
 obtain ⟨a0, l, H⟩ := bind_some H
 refine A2 rfl rfl rfl rfl (gisadl_fresh_1_133_85_ok p l) ?_
 rintro _ a2 ⟨rfl, k⟩
 refine Ab ?_
 refine An (t := a0) rfl (fun g => ?_) (fun g => ?_)
 {
 have H := Au g H
 refine Ac (Aa (V rfl (V rfl (Ab ?_))))
 obtain rfl := so H
 refine Aw ?_
 refine And.intro rfl (Ret.mk rfl ?_)
 exact ⟨rfl, k⟩}
 {
 have H := Av g H
 refine A7 (Aa (V rfl (V rfl (Ab ?_))))
 exact Be (fl rfl) (ih ((IntKind.wrap .i64 (h + 1)), ()) _ k H)}}
 {
 have H := Av e H
 refine D9 ?_
 obtain rfl := so H
 exact And.intro rfl ⟨p, (.nil')⟩}}
 {
 rcases o with _ | a9
 {
 intro x a3 a4 hJ
 obtain ⟨rfl, u, w⟩ := hJ
 refine Be (F := []) w (Ac (Aa (V rfl (Ab ?_))))
 obtain rfl := so H
 refine Aw (Ret.mk rfl ?_)
 exact ⟨rfl, u⟩}
 {
 intro x a5 a6 hJ
 obtain rfl := so H
 obtain ⟨rfl, hr⟩ := hJ
 exact hr}}

theorem Ki {n : Nat} {a : Nat} {b : Nat} {f : (List Fx)} {c : ByteArray} {d : A} {R : List Res} {σ : St} (h : Sl rTNamed d f) (hp : Hp σ (.blk a (.cells [(.fn (.func 85) [] [])] 151) :: .blk b (.cells [(vS c)] 9) :: R)) {r : Bool} (H : C9 n f c = some r) : Ca cfg 132 [d, (.fn (.func 133) [] [(.ptr a 0), (.ptr b 0)])] σ (J3 a b c R r) := by
 unfold C9 at H
 refine Ca.enterL (G := [(0, d), (1, (.fn (.func 133) [] [(.ptr a 0), (.ptr b 0)]))]) Tryz.func132 rfl rfl rfl rfl (Ac (Aa (V rfl (Ab (Ac ?_)))))
 refine Aa (V rfl (V rfl ?_))
 obtain ⟨j, e, H⟩ := bind_some H
 refine A2 rfl rfl rfl rfl (gslices_IndexFunc_173_133_85_ok h hp e) ?_
 rintro _ i ⟨rfl, g⟩
 refine V rfl (V rfl (Ab ?_))
 obtain rfl := so H
 refine Aw (Ret.mk rfl ?_)
 exact ⟨rfl, g⟩

theorem gisadl_fresh_84_85_ok {n : Nat} {l : (List Fx)} {f : ByteArray} {g : Int} {h : A} {R : List Res} {σ : St} (m : Sl rTNamed h l) (hp : Hp σ R) {r : (PR ByteArray Int)} (H : Hk n l f g = some r) : CaO cfg 84 [h, (vS f), (vI g), (.fn (.func 85) [] [])] σ (gisadl_fresh_84_85_post R r) := by
 unfold Hk at H
 refine CaO.enterL (G := [(0, h), (1, (vS f)), (2, (vI g)), (3, (.fn (.func 85) [] []))]) Tryz.func84 rfl rfl rfl rfl (Ac (Aa (Cb hp rfl rfl rfl rfl rfl rfl rfl ?_)))
 intro a4 y o
 refine Cb o rfl rfl rfl rfl rfl rfl rfl ?_
 intro a5 z p
 refine V rfl (Ab (Ac (Aa (V rfl (V rfl ?_)))))
 obtain ⟨a6, i, H⟩ := bind_some H
 refine A2 rfl rfl rfl rfl (Ki m p i) ?_
 rintro _ t ⟨rfl, a⟩
 refine V rfl ?_
 obtain ⟨q, b, H⟩ := bind_some H
 rcases q with a0 | a1
 {
 refine Ai (Ah a b) rfl rfl rfl rfl ?_
 rintro _ u ⟨rfl, c⟩
 refine Ab (Ac (Aa (V rfl (W (Cj m rfl rfl rfl rfl rfl Tryz.underlying36) rfl (V rfl ?_)))))
 refine V rfl ?_
 obtain ⟨s, d, H⟩ := bind_some H
 rcases s with a2 | a3
 {
 refine Ai (Ah c d) rfl rfl rfl rfl ?_
 rintro _ v ⟨rfl, e⟩
 refine Ab (Ac (Aa (W (Ag e 1 rfl rfl rfl rfl) rfl (V rfl (Ab ?_)))))
 obtain rfl := so H
 refine Aw (Fin.mk rfl ?_)
 exact ⟨rfl, (Hp.pick e 2 [] rfl)⟩}
 {
 refine Aj (Ah c d) rfl rfl ?_
 intro w j
 obtain rfl := so H
 exact Fin.pan (C := cfg) (fn := Tryz.f84) ⟨rfl, (Hp.pick j 2 [] rfl)⟩}}
 {
 refine Aj (Ah a b) rfl rfl ?_
 intro x k
 obtain rfl := so H
 exact Fin.pan (C := cfg) (fn := Tryz.f84) ⟨rfl, (Hp.pick k 2 [] rfl)⟩}

theorem gr_tried_1_fin_ok {n : Nat} {b : Nat} {a : Int} {R : List Res} {σ : St} (hp : Hp σ (.blk b (.cells [(vI a)] 24) :: R)) {r : Unit} (H : gr_tried_1_fin n a = some r) : Cd cfg 27 [(.ptr b 0)] σ none (fun s q => q = none ∧ (Hp s (.blk b (.cells [(vI a)] 24) :: R))) := by
 unfold gr_tried_1_fin at H
 refine Cd.enter (G := [(0, (.ptr b 0))]) Tryz.func27 rfl rfl rfl rfl (EsC.seq (EsC.rcv rfl rfl rfl rfl rfl (V rfl (Ab ?_))))
 refine ⟨rfl, rfl, rfl, _, Fl.self _, ?_⟩
 refine EsC.of (Ac (Aa (V rfl (W (op_nilNil rfl rfl rfl Tryz.underlying20 rfl) rfl (Ab ?_)))))
 obtain ⟨f, d, H⟩ := bind_some H
 refine A4 (J := (fun (_ : Unit) (x : X) (φ : Fr) (s : St) => x = .normal ∧ (Hp s (.blk b (.cells [(vI a)] 24) :: R) ∧ Fl [] φ)) f) ?_ ?_
 {
 have H := d
 refine An (t := false) rfl (fun h => nomatch h) (fun h => ?_)
 refine A7 ?_
 obtain rfl := so H
 exact And.intro rfl ⟨hp, (.nil')⟩}
 {
 intro x g i hJ
 obtain ⟨rfl, e, c⟩ := hJ
 obtain rfl := so H
 exact ⟨.inl rfl, c.2, .inl rfl, c.2, ⟨[], rfl⟩, rfl, e⟩}

theorem gr_tried_1_pan_ok {n : Nat} {a : Nat} {b : Int} {pp : Int} {R : List Res} {σ : St} (hp : Hp σ (.blk a (.cells [(vI b)] 24) :: R)) {r : Int} (H : gr_tried_1_pan n b pp = some r) : Cd cfg 27 [(.ptr a 0)] σ (some (.ifc 24 (vI pp))) (fun s q => q = none ∧ (Hp s (.blk a (.cells [(vI r)] 24) :: R))) := by
 unfold gr_tried_1_pan at H
 refine Cd.enter (G := [(0, (.ptr a 0))]) Tryz.func27 rfl rfl rfl rfl (EsC.seq (EsC.rcv rfl rfl rfl rfl rfl (V rfl (Ab ?_))))
 refine ⟨rfl, rfl, rfl, _, Fl.self _, ?_⟩
 refine EsC.of (Ac (Aa (V rfl (W (op_neNil rfl rfl rfl Tryz.underlying20 rfl) rfl (Ab ?_)))))
 obtain ⟨d, e, H⟩ := bind_some H
 refine A4 (J := (fun (d : Int) (x : X) (φ : Fr) (s : St) => x = .normal ∧ (Hp s (.blk a (.cells [(vI d)] 24) :: R) ∧ Fl [] φ)) d) ?_ ?_
 {
 have H := e
 refine An (t := true) rfl (fun h => ?_) (fun h => nomatch h)
 refine Aa (V rfl (W (op_assert rfl rfl Tryz.underlying24 rfl) rfl (Al hp 0 rfl (Af rfl rfl rfl rfl rfl rfl) rfl rfl rfl rfl rfl ?_)))
 intro i f
 refine Ab ?_
 obtain rfl := so H
 exact And.intro rfl ⟨f, (.nil')⟩}
 {
 intro x j k hJ
 obtain ⟨rfl, g, c⟩ := hJ
 obtain rfl := so H
 exact ⟨.inl rfl, c.2, .inl rfl, c.2, ⟨[], rfl⟩, rfl, g⟩}

theorem gr_readFile_f69_ok {n : Nat} {a : Nat} {b : Nat} {ad : TRd} {a3 : (List Ae)} {a2 : A} {bu : (List A)} {bv : A} {R : List Res} {σ : St} (du : isOne a2 = true) (cw : E2 a2 ad bu) (bw : Sl A0 bv a3) (hp : Hp σ (C0 a bu (.blk b (.cells [bv] 167) :: R))) {r : (PR (TRd × (List Ae)) Int)} (H : I5 n ad a3 = some r) : CaO cfg 69 [(.ptr a 0), (.ptr b 0)] σ (gr_readFile_f69_post a b a2 R r) := by
 unfold I5 at H
 refine CaO.enterL (G := [(0, (.ptr a 0)), (1, (.ptr b 0))]) Tryz.func69 rfl rfl rfl rfl (Ac (Aa (V rfl ?_)))
 obtain ⟨ba, q, H⟩ := bind_some H
 rcases ba with bb | cx
 {
 refine Ai (A1 bw (Hp.pick hp 13 [12, 0, 1, 2, 3, 4, 5, 6, 7, 8, 9, 10, 11] rfl) q) rfl rfl rfl rfl ?_
 obtain ⟨dg, dh⟩ := bb
 rintro _ cy ⟨di, rfl, ax, bc⟩
 refine V rfl (Ab (Ac (Aa ?_)))
 obtain ⟨dj, ae, H⟩ := bind_some H
 refine A2 rfl rfl rfl rfl (prim106_ok bc ae) ?_
 rintro dk cz ⟨_, rfl, bx, bd⟩
 refine V rfl ?_
 obtain ⟨dl, af, H⟩ := bind_some H
 refine A2 rfl rfl rfl rfl (Kp bx bd af) ?_
 rintro _ d0 ⟨rfl, a4⟩
 refine V rfl ?_
 obtain ⟨be, u, H⟩ := bind_some H
 rcases be with d1 | d2
 {
 refine Ai (Ah a4 u) rfl rfl rfl rfl ?_
 rintro _ d3 ⟨rfl, j⟩
 refine Ab (Ac (Aa ?_))
 iterate 4 refine V rfl ?_
 obtain ⟨bz, ay, az, b0, b1, b2, b3, b4, b5, b6, b7, rfl, a5, c0, c1, c2, c3, c4, c5, c6, c7, c8, c9⟩ := cw
 refine W (Ag j 1 rfl rfl rfl rfl) rfl (V rfl ?_)
 obtain ⟨bf, w, H⟩ := bind_some H
 rcases bf with f | d4
 {
 refine Ai (Kq a5 j w) rfl rfl rfl rfl ?_
 rintro _ d5 ⟨rfl, a6⟩
 refine V rfl ?_
 obtain ⟨bg, y, H⟩ := bind_some H
 rcases bg with bh | d6
 {
 refine Ai (Bg ax a6 y) rfl rfl rfl rfl ?_
 obtain ⟨g, dm⟩ := bh
 rintro _ d7 ⟨dn, rfl, b8, a7⟩
 refine V rfl ?_
 obtain ⟨bi, a0, H⟩ := bind_some H
 rcases bi with bj | d8
 {
 refine Ai (Bg b8 a7 a0) rfl rfl rfl rfl ?_
 obtain ⟨h, dp⟩ := bj
 rintro _ d9 ⟨dq, rfl, ca, bk⟩
 refine W (Bh (Am rfl rfl rfl rfl rfl (Am rfl rfl rfl rfl rfl (Am rfl rfl rfl rfl rfl (Am rfl rfl rfl rfl rfl Bc)))) rfl (Ak rfl rfl (Ak rfl rfl (Ak rfl rfl (Ak rfl rfl rfl)))) Tryz.underlying72 rfl rfl) rfl ?_
 refine Cs (z := [(vS (ByteArray.mk #[])), (vI 0), (vI 0), (vI 0)]) bk rfl rfl rfl rfl rfl ?_
 intro a8 da bl
 refine Al bl 0 rfl (Af rfl rfl rfl rfl rfl rfl) rfl rfl rfl rfl rfl ?_
 intro db bm
 refine Ab (Ac (Ac (Aa (V rfl ?_))))
 obtain ⟨bn, a9, H⟩ := bind_some H
 refine A2 rfl rfl rfl rfl (gc_is_ok ca (Hp.pick bm 2 [1, 0] rfl) a9) ?_
 obtain ⟨cb, dr⟩ := bn
 rintro _ dc ⟨cc, rfl, aa, k⟩
 refine Ab ?_
 obtain ⟨ab, ag, H⟩ := bind_some H
 refine A4 (J := (fun (v : LR (Int × (List Ae)) (PR (TRd × (List Ae)) Int)) (x : X) (φ : Fr) (s : St) => match v with | .out (d, b9) => x = .normal ∧ (∃ (i : A), Sl A0 i b9 ∧ Hp s (C0 a [(vS ad.f_Desc.f_Name), (vI ad.f_Desc.f_Order), bz, ay, az, b0, b1, b2, b3, b4, b5, b6, b7, a2] (.blk a8 (.cells [(vS f), (vI g), (vI h), (vI d)] 72) :: .blk b (.cells [i] 167) :: R)) ∧ Fl [(0, (.ptr a 0)), (5, (.ptr a8 0))] φ) | .ret r => FinR cfg Tryz.f69 (gr_readFile_f69_post a b a2 R r) x φ s) ab) ?_ ?_
 {
 have H := ag
 refine An (t := cb) rfl (fun l => ?_) (fun l => ?_)
 {
 have H := Au l H
 refine Aa (V rfl ?_)
 obtain ⟨bo, a1, H⟩ := bind_some H
 rcases bo with bp | dd
 {
 refine Ai (Bg aa k a1) rfl rfl rfl rfl ?_
 obtain ⟨ds, dt⟩ := bp
 rintro _ cg ⟨cd, rfl, ce, bq⟩
 refine V rfl (Al bq 1 rfl (Af rfl rfl rfl rfl rfl rfl) rfl rfl rfl rfl rfl ?_)
 intro ch ah
 refine Ab ?_
 obtain rfl := so H
 exact And.intro rfl ⟨cd, ce, (Hp.pick ah 14 [2, 3, 4, 5, 6, 7, 8, 9, 10, 11, 12, 13, 1, 0] rfl), (fl rfl)⟩}
 {
 refine Aj (Bg aa k a1) rfl rfl ?_
 intro ci ai
 obtain rfl := so H
 exact Fin.pan (C := cfg) (fn := Tryz.f69) ⟨rfl, (Hp.pick ai 13 [] rfl)⟩}}
 {
 have H := Av l H
 refine A7 ?_
 obtain rfl := so H
 exact And.intro rfl ⟨cc, aa, (Hp.pick k 14 [2, 3, 4, 5, 6, 7, 8, 9, 10, 11, 12, 13, 1, 0] rfl), (fl rfl)⟩}}
 {
 rcases ab with ⟨d, b9⟩ | de
 {
 intro x cj ck hJ
 obtain ⟨rfl, i, cf, e, aj⟩ := hJ
 refine Be (F := [(0, (.ptr a 0)), (5, (.ptr a8 0))]) aj ?_
 obtain ⟨m, ak, H⟩ := bind_some H
 refine A4 (J := (fun (m : TRd) (x : X) (φ : Fr) (s : St) => x = .normal ∧ (∃ (o : (List A)), E2 a2 m o ∧ Hp s (C0 a o (.blk b (.cells [i] 167) :: R)) ∧ Fl [] φ)) m) ?_ ?_
 {
 have H := ak
 refine Fv (by kernel_rfl) ?_
 iterate 5 refine V rfl ?_
 refine W (Ag e 0 rfl rfl rfl rfl) rfl (W (Ag e 12 rfl rfl rfl rfl) rfl ?_)
 refine W (Cy (Am rfl rfl rfl rfl rfl Bc) rfl (Ak rfl rfl rfl) Tryz.underlying27 rfl rfl rfl rfl (by decide) rfl) rfl ?_
 have br : Sl rTFile (.sl 4 [(vS f), (vI g), (vI h), (vI d)] .ex) ([(Fz.mk f g h d)] : List Fz) := .inr ⟨_, _, rfl, (.cons (c := [(vS f), (vI g), (vI h), (vI d)]) rfl .nil)⟩
 have al := Dv e 72 4 [(vS f), (vI g), (vI h), (vI d)]
 obtain ⟨df, ac, H⟩ := bind_some H
 refine Hy al 2 rfl a5 (New.of br) ac rfl rfl rfl rfl rfl rfl rfl Tryz.underlying27 rfl Tryz.underlying27 rfl rfl rfl rfl rfl rfl rfl rfl ?_
 intro bs cl p am
 iterate 3 refine V rfl ?_
 refine Al am 1 rfl (Af (p.cells) rfl rfl (by exact on p.isOne on0) rfl rfl) rfl rfl rfl rfl rfl ?_
 intro cm an
 refine Ab ?_
 obtain rfl := so H
 exact And.intro rfl (And.intro rfl ⟨_, ⟨bs, ay, az, b0, b1, b2, b3, b4, b5, b6, b7, rfl, p, c0, c1, c2, c3, c4, c5, c6, c7, c8, c9⟩, (Hp.pick an 14 [1, 2, 3, 4, 5, 6, 7, 8, 9, 10, 11, 12] rfl), (.nil')⟩)}
 {
 intro x cn co hJ
 obtain ⟨rfl, o, bt, ao, ap⟩ := hJ
 obtain rfl := so H
 refine Fin.mkNφ (C := cfg) (fn := Tryz.f69) ap rfl ?_
 exact ⟨_, i, rfl, bt, cf, (Hp.pick ao 13 [0, 12, 1, 2, 3, 4, 5, 6, 7, 8, 9, 10, 11] rfl)⟩}}
 {
 intro x cp cq hJ
 obtain rfl := so H
 cases x <;> first | exact hJ | exact hJ.elim}}}
 {
 refine Aj (Bg b8 a7 a0) rfl rfl ?_
 intro cr aq
 obtain rfl := so H
 exact Fin.pan (C := cfg) (fn := Tryz.f69) ⟨rfl, (Hp.pick aq 12 [] rfl)⟩}}
 {
 refine Aj (Bg ax a6 y) rfl rfl ?_
 intro cs ar
 obtain rfl := so H
 exact Fin.pan (C := cfg) (fn := Tryz.f69) ⟨rfl, (Hp.pick ar 12 [] rfl)⟩}}
 {
 refine Aj (Kq a5 j w) rfl rfl ?_
 intro ct au
 obtain rfl := so H
 exact Fin.pan (C := cfg) (fn := Tryz.f69) ⟨rfl, (Hp.pick au 13 [] rfl)⟩}}
 {
 refine Aj (Ah a4 u) rfl rfl ?_
 intro cu av
 obtain rfl := so H
 exact Fin.pan (C := cfg) (fn := Tryz.f69) ⟨rfl, (Hp.pick av 13 [] rfl)⟩}}
 {
 refine Aj (A1 bw (Hp.pick hp 13 [12, 0, 1, 2, 3, 4, 5, 6, 7, 8, 9, 10, 11] rfl) q) rfl rfl ?_
 intro cv aw
 obtain rfl := so H
 exact Fin.pan (C := cfg) (fn := Tryz.f69) ⟨rfl, (Hp.pick aw 12 [] rfl)⟩}

theorem Ii {n : Nat} {a : Nat} {b : Nat} {a1 : TRd} {e : (List Ae)} {a2 : A} {f : (List A)} {a3 : A} {R : List Res} {σ : St} (b9 : isOne a2 = true) (ac : E2 a2 a1 f) (a4 : Sl A0 a3 e) (hp : Hp σ (C0 a f (.blk b (.cells [a3] 167) :: R))) {r : (PR (Int × (List Ae)) Int)} (H : Jm n a1 e = some r) : CaO cfg 72 [(.ptr a 0), (.ptr b 0)] σ (gr_file_f72_post a b f R r) := by
 unfold Jm at H
 refine CaO.enterL (G := [(0, (.ptr a 0)), (1, (.ptr b 0))]) Tryz.func72 rfl rfl rfl rfl (Ac (Aa (V rfl (Ab (Ac ?_)))))
 obtain ⟨g, k, H⟩ := bind_some H
 refine A4 (J := (fun (v : LR (Int × (List Ae)) (PR (Int × (List Ae)) Int)) (x : X) (φ : Fr) (s : St) => match v with | .out (h, m) => x = .normal ∧ (∃ (d : A), Sl A0 d m ∧ Hp s (C0 a f (.blk b (.cells [d] 167) :: R)) ∧ Fl [(4, (vI h))] φ) | .ret r => FinR cfg Tryz.f72 (gr_file_f72_post a b f R r) x φ s) g) ?_ ?_
 {
 have H := k
 refine C5 (by kernel_rfl) ?_
 iterate 4 refine Az rfl rfl rfl rfl rfl rfl ?_
 obtain ⟨aj, ak, al, am, an, ao, ap, aq, ar, au, av, rfl, o, aw, ax, ay, az, b0, b1, b2, b3, b4, b5⟩ := ac
 refine Az (Ag hp 0 rfl rfl rfl rfl) rfl rfl rfl rfl rfl (Az rfl rfl rfl rfl rfl rfl ?_)
 obtain ⟨a5, i, H⟩ := bind_some H
 rcases a5 with p | b6
 rotate_left
 {
 refine Bn (A1 a4 (Hp.pick hp 13 [12, 0, 1, 2, 3, 4, 5, 6, 7, 8, 9, 10, 11] rfl) i) rfl rfl rfl rfl rfl (by kernel_rfl) ?_
 intro ad u
 obtain rfl := so H
 exact Bm (C := cfg) (fn := Tryz.f72) ⟨rfl, (Hp.pick u 12 [] rfl)⟩}
 refine Bk (CaO.val (A1 a4 (Hp.pick hp 13 [12, 0, 1, 2, 3, 4, 5, 6, 7, 8, 9, 10, 11] rfl) i)) rfl rfl rfl rfl rfl (by obtain ⟨a6, a7⟩ := p; rintro _ w ⟨q, rfl, t, c⟩; exact (Ad rfl (B7 rfl (Ag c 1 rfl rfl rfl rfl) (Ad rfl (Ad rfl (Ad rfl (Ad rfl A6))))))) ?_
 obtain ⟨a6, a7⟩ := p
 rintro _ w ⟨q, rfl, t, c⟩
 obtain ⟨a8, j, H⟩ := bind_some H
 rcases a8 with b7 | b8
 rotate_left
 {
 refine Bn (Ef o c j) rfl rfl rfl rfl rfl (by kernel_rfl) ?_
 intro ae y
 obtain rfl := so H
 exact Bm (C := cfg) (fn := Tryz.f72) ⟨rfl, (Hp.pick y 13 [] rfl)⟩}
 refine Bk (CaO.val (Ef o c j)) rfl rfl rfl rfl rfl (fun _ _ _ => (Ad rfl (Bd (by kernel_rfl) (Ad rfl (Ad rfl (Ad rfl (Ad rfl A6))))))) ?_
 rintro _ af ⟨rfl, z⟩
 refine A9 rfl rfl rfl rfl rfl (Ar rfl (Ar rfl A8)) (Dh ?_)
 obtain rfl := so H
 exact And.intro rfl ⟨q, t, (Hp.pick z 13 [1, 2, 3, 4, 5, 6, 7, 8, 9, 10, 11, 12, 0] rfl), (fl rfl)⟩}
 {
 rcases g with ⟨h, m⟩ | ag
 {
 intro x ah ai hJ
 obtain ⟨rfl, d, a9, a0, l⟩ := hJ
 refine Be (F := [(4, (vI h))]) l ?_
 obtain rfl := so H
 refine Aw (Fin.mk rfl ?_)
 exact ⟨d, rfl, a9, (Hp.pick a0 13 [0, 12, 1, 2, 3, 4, 5, 6, 7, 8, 9, 10, 11] rfl)⟩}
 {
 intro x aa ab hJ
 obtain rfl := so H
 cases x <;> first | exact hJ | exact hJ.elim}}

end Go.DM
