/- Walks: the calls come to the typed functions, part 3. No condition. -/
import Derived.Test.YtnkingoidodnlaaGreatDoorWalkC
namespace Go.DM
open Go Go.Proofs
set_option maxRecDepth 100000
set_option maxHeartbeats 40000000
theorem gr_readClass_f76_ok {n : Nat} {a : Nat} {b : Nat} {gg : TRd} {bo : (List Ae)} {a3 : A} {w : (List A)} {gh : A} {R : List Res} {σ : St} (gi : isOne a3 = true) (cl : E2 a3 gg w) (gj : Sl A0 gh bo) (hp : Hp σ (C0 a w (.blk b (.cells [gh] 167) :: R))) {r : (PR (TRd × (List Ae)) Int)} (H : Ig n gg bo = some r) : CaO cfg 76 [(.ptr a 0), (.ptr b 0)] σ (D6 a b a3 R r) := by
 unfold Ig at H
 refine CaO.enterL (G := [(0, (.ptr a 0)), (1, (.ptr b 0))]) Tryz.func76 rfl rfl rfl rfl (Ac ?_)
 obtain ⟨bp, cm, H⟩ := bind_some H
 refine A4 (J := (fun (v : LR ((List Ae) × ByteArray × Int × Int × Int × Int × Int × (List Int)) (PR (TRd × (List Ae)) Int)) (x : X) (φ : Fr) (s : St) => match v with | .out (e5, l, e6, e7, bq, a4, b6, br) => x = .normal ∧ (∃ (d : Nat), ∃ (bs h : A), Sl A0 bs e5 ∧ Sl (rI .i64) h br ∧ Hp s (C0 a w (.blk b (.cells [bs] 167) :: .blk d (.cells [(vS l), (vI e6), (vI e7), (vI bq), (vI a4), (vI b6), h] 78) :: .app h 3 :: R)) ∧ Fl [(0, (.ptr a 0)), (1, (.ptr b 0)), (4, (.ptr d 0))] φ) | .ret r => FinR cfg Tryz.f76 (D6 a b a3 R r) x φ s) bp) ?_ ?_
 {
 have H := cm
 refine C5 (by kernel_rfl) ?_
 iterate 4 refine Az rfl rfl rfl rfl rfl rfl ?_
 obtain ⟨jp, jq, jr, js, jt, ju, jv, jw, jx, jy, jz, rfl, k0, k1, k2, e8, k3, k4, k5, k6, k7, k8, k9⟩ := cl
 refine Az (Ag hp 0 rfl rfl rfl rfl) rfl rfl rfl rfl rfl (Az rfl rfl rfl rfl rfl rfl ?_)
 obtain ⟨gk, b7, H⟩ := bind_some H
 rcases gk with bt | ip
 rotate_left
 {
 refine Bn (A1 gj (Hp.pick hp 13 [12, 0, 1, 2, 3, 4, 5, 6, 7, 8, 9, 10, 11] rfl) b7) rfl rfl rfl rfl rfl (by kernel_rfl) ?_
 intro gp cn
 obtain rfl := so H
 exact Bm (C := cfg) (fn := Tryz.f76) ⟨rfl, (Hp.pick cn 12 [] rfl)⟩}
 refine Bk (CaO.val (A1 gj (Hp.pick hp 13 [12, 0, 1, 2, 3, 4, 5, 6, 7, 8, 9, 10, 11] rfl) b7)) rfl rfl rfl rfl rfl (by obtain ⟨gl, gm⟩ := bt; rintro _ ed ⟨e9, rfl, ea, a5⟩; exact (Ad rfl (B7 rfl (Ag a5 1 rfl rfl rfl rfl) (Ad rfl (Ad rfl (Ad rfl (Ad rfl A6))))))) ?_
 obtain ⟨gl, gm⟩ := bt
 rintro _ ed ⟨e9, rfl, ea, a5⟩
 obtain ⟨ee, b8, H⟩ := bind_some H
 rcases ee with iq | ir
 rotate_left
 {
 refine Bn (Kr e8 a5 b8) rfl rfl rfl rfl rfl (by kernel_rfl) ?_
 intro gq co
 obtain rfl := so H
 exact Bm (C := cfg) (fn := Tryz.f76) ⟨rfl, (Hp.pick co 13 [] rfl)⟩}
 refine Bk (CaO.val (Kr e8 a5 b8)) rfl rfl rfl rfl rfl (fun _ _ _ => (Ad rfl (Bd (by kernel_rfl) (Ad rfl (Ad rfl (Ad rfl (Ad rfl A6))))))) ?_
 rintro _ gr ⟨rfl, cp⟩
 refine A9 (Bh (Am rfl rfl rfl rfl rfl Bc) rfl (Ak rfl rfl rfl) Tryz.underlying78 rfl rfl) rfl rfl rfl rfl (Ar rfl (Ar rfl A8)) ?_
 refine Ed.alloc (z := [(vS (ByteArray.mk #[])), (vI 0), (vI 0), (vI 0), (vI 0), (vI 0), A5]) cp rfl rfl rfl rfl rfl (fun b' σ' hp' => ((Ad rfl (Ad rfl (B7 rfl (Ag hp' 2 rfl rfl rfl rfl) (Ad rfl (Ad rfl (Ad rfl (Ad rfl A6))))))))) ?_
 intro ef gs cq
 refine Gm cq 0 rfl (Af rfl rfl rfl rfl rfl rfl) rfl rfl rfl rfl rfl (fun σ' hp' => ((Ad rfl (Ad rfl (Bd (by kernel_rfl) (Ad rfl (Ad rfl (Ad rfl (Ad rfl A6))))))))) ?_
 intro gt cr
 refine Dh ?_
 obtain rfl := so H
 exact And.intro rfl ⟨ef, e9, A5, ea, Sl.nil, (Hp.pick (As cr 3) 15 [3, 4, 5, 6, 7, 8, 9, 10, 11, 12, 13, 14, 2, 1, 0] rfl), (fl rfl)⟩}
 {
 rcases bp with ⟨e5, l, e6, e7, bq, a4, b6, br⟩ | it
 {
 intro x gu gv hJ
 obtain ⟨rfl, d, bs, h, eb, ec, b9, cs⟩ := hJ
 refine Be (F := [(0, (.ptr a 0)), (1, (.ptr b 0)), (4, (.ptr d 0))]) cs (Ac (Ac (Aa (V rfl ?_))))
 obtain ⟨eg, ba, H⟩ := bind_some H
 rcases eg with eh | iu
 {
 refine Ai (A1 eb (Hp.pick b9 13 [12, 0, 1, 2, 3, 4, 5, 6, 7, 8, 9, 10, 11] rfl) ba) rfl rfl rfl rfl ?_
 obtain ⟨y, iv⟩ := eh
 rintro _ gw ⟨a0, rfl, u, o⟩
 refine Ab ?_
 obtain ⟨bu, ct, H⟩ := bind_some H
 refine A4 (J := (fun (v : LR ((List Ae) × Int × Int) (PR (TRd × (List Ae)) Int)) (x : X) (φ : Fr) (s : St) => match v with | .out (bv, e, g) => x = .normal ∧ (∃ (aw : A), Sl A0 aw bv ∧ Hp s (C0 a w (.blk b (.cells [aw] 167) :: .blk d (.cells [(vS l), (vI e), (vI g), (vI bq), (vI a4), (vI b6), h] 78) :: .app h 3 :: R)) ∧ Fl [(0, (.ptr a 0)), (1, (.ptr b 0)), (4, (.ptr d 0))] φ) | .ret r => FinR cfg Tryz.f76 (D6 a b a3 R r) x φ s) bu) ?_ ?_
 {
 have H := ct
 refine Bb (Ac (Aa (W (B9 rfl (Bi _ _)) rfl (V rfl (Ab ?_)))))
 refine An (t := (decide (y = (ByteArray.mk #[114, 101, 103])))) rfl (fun a6 => ?_) (fun a6 => ?_)
 {
 have H := Au a6 H
 refine Ac (Aa (V rfl (Al o 13 rfl (Af rfl rfl rfl rfl rfl rfl) rfl rfl rfl rfl rfl ?_)))
 intro gx bb
 refine Ab (Aa (V rfl (V rfl ?_)))
 obtain ⟨ei, bc, H⟩ := bind_some H
 rcases ei with ej | iw
 {
 refine Ai (Ii gi cl u (Hp.pick bb 13 [1, 2, 3, 4, 5, 6, 7, 8, 9, 10, 11, 12, 0] rfl) bc) rfl rfl rfl rfl ?_
 obtain ⟨ix, iy⟩ := ej
 rintro _ gy ⟨ek, rfl, el, cu⟩
 refine V rfl (Al cu 13 rfl (Af rfl rfl rfl rfl rfl rfl) rfl rfl rfl rfl rfl ?_)
 intro gz cv
 refine Ab ?_
 obtain rfl := so H
 exact And.intro rfl ⟨ek, el, (Hp.pick cv 13 [0, 2, 3, 4, 5, 6, 7, 8, 9, 10, 11, 12, 1] rfl), (fl rfl)⟩}
 {
 refine Aj (Ii gi cl u (Hp.pick bb 13 [1, 2, 3, 4, 5, 6, 7, 8, 9, 10, 11, 12, 0] rfl) bc) rfl rfl ?_
 intro h0 cw
 obtain rfl := so H
 exact Fin.pan (C := cfg) (fn := Tryz.f76) ⟨rfl, (Hp.pick cw 2 [] rfl)⟩}}
 {
 have H := Av a6 H
 refine Ac (Aa (W (B9 rfl (Bi _ _)) rfl (V rfl (Ab ?_))))
 refine An (t := (decide (y = (ByteArray.mk #[117, 110, 115])))) rfl (fun a7 => ?_) (fun a7 => ?_)
 {
 have H := Au a7 H
 refine Aa (V rfl (Al o 13 rfl (Af rfl rfl rfl rfl rfl rfl) rfl rfl rfl rfl rfl ?_))
 intro h1 cx
 refine Ab ?_
 obtain rfl := so H
 exact And.intro rfl ⟨a0, u, (Hp.pick cx 13 [1, 2, 3, 4, 5, 6, 7, 8, 9, 10, 11, 12, 0] rfl), (fl rfl)⟩}
 {
 have H := Av a7 H
 refine Ac (Aa (W (B9 rfl (Bi _ _)) rfl (V rfl (Ab ?_))))
 refine An (t := (decide (y = (ByteArray.mk #[115, 103, 110])))) rfl (fun a8 => ?_) (fun a8 => ?_)
 {
 have H := Au a8 H
 refine Aa (V rfl (Al o 13 rfl (Af rfl rfl rfl rfl rfl rfl) rfl rfl rfl rfl rfl ?_))
 intro h2 cy
 refine Ab ?_
 obtain rfl := so H
 exact And.intro rfl ⟨a0, u, (Hp.pick cy 13 [1, 2, 3, 4, 5, 6, 7, 8, 9, 10, 11, 12, 0] rfl), (fl rfl)⟩}
 {
 have H := Av a8 H
 refine Ac (Aa (W (B9 rfl (Bi _ _)) rfl (V rfl (Ab ?_))))
 refine An (t := (decide (y = (ByteArray.mk #[112, 99])))) rfl (fun a9 => ?_) (fun a9 => ?_)
 {
 have H := Au a9 H
 refine Aa (V rfl (Al o 13 rfl (Af rfl rfl rfl rfl rfl rfl) rfl rfl rfl rfl rfl ?_))
 intro h3 cz
 refine Ab ?_
 obtain rfl := so H
 exact And.intro rfl ⟨a0, u, (Hp.pick cz 13 [1, 2, 3, 4, 5, 6, 7, 8, 9, 10, 11, 12, 0] rfl), (fl rfl)⟩}
 {
 have H := Av a9 H
 refine Ac (Aa (W (B9 rfl (Bi _ _)) rfl (V rfl (Ab ?_))))
 refine An (t := (decide (y = (ByteArray.mk #[110, 120])))) rfl (fun aa => ?_) (fun aa => ?_)
 {
 have H := Au aa H
 refine Aa (V rfl (Al o 13 rfl (Af rfl rfl rfl rfl rfl rfl) rfl rfl rfl rfl rfl ?_))
 intro h4 d0
 refine Ab ?_
 obtain rfl := so H
 exact And.intro rfl ⟨a0, u, (Hp.pick d0 13 [1, 2, 3, 4, 5, 6, 7, 8, 9, 10, 11, 12, 0] rfl), (fl rfl)⟩}
 {
 have H := Av aa H
 refine Aa ?_
 obtain ⟨em, bd, H⟩ := bind_some H
 rcases em with iz | j0
 {
 refine Ai (Ah o bd) rfl rfl rfl rfl ?_
 rintro _ h5 ⟨rfl, d1⟩
 refine Ab ?_
 obtain rfl := so H
 exact And.intro rfl ⟨a0, u, (Hp.pick d1 13 [1, 2, 3, 4, 5, 6, 7, 8, 9, 10, 11, 12, 0] rfl), (fl rfl)⟩}
 {
 refine Aj (Ah o bd) rfl rfl ?_
 intro h6 d2
 obtain rfl := so H
 exact Fin.pan (C := cfg) (fn := Tryz.f76) ⟨rfl, (Hp.pick d2 15 [] rfl)⟩}}}}}}}
 {
 rcases bu with ⟨bv, e, g⟩ | j1
 {
 intro x h7 h8 hJ
 obtain ⟨rfl, aw, bw, be, d3⟩ := hJ
 refine Be (F := [(0, (.ptr a 0)), (1, (.ptr b 0)), (4, (.ptr d 0))]) d3 (Ac (Aa (V rfl ?_)))
 obtain ⟨en, bf, H⟩ := bind_some H
 rcases en with eo | j2
 {
 refine Ai (Bg bw (Hp.pick be 13 [12, 0, 1, 2, 3, 4, 5, 6, 7, 8, 9, 10, 11] rfl) bf) rfl rfl rfl rfl ?_
 obtain ⟨j, j3⟩ := eo
 rintro _ h9 ⟨ep, rfl, bx, d4⟩
 refine V rfl (Al d4 13 rfl (Af rfl rfl rfl rfl rfl rfl) rfl rfl rfl rfl rfl ?_)
 intro ha ab
 refine Ab (Ac (Ac (Aa (V rfl (W (Ag ab 13 rfl rfl rfl rfl) rfl ?_)))))
 refine V rfl (V rfl ?_)
 obtain ⟨bz, d5, H⟩ := bind_some H
 refine H1 3 (J := (fun (v : (Bool × (List Ae))) (x : X) (φ : Fr) (s : St) => match v with | (ac, c0) => x = .normal ∧ (∃ (ad : A), Sl A0 ad c0 ∧ Hp s (C0 a w (.blk b (.cells [ad] 167) :: .blk d (.cells [(vS l), (vI e), (vI g), (vI j), (vI a4), (vI b6), h] 78) :: .app h 3 :: R)) ∧ Fl [(0, (.ptr a 0)), (1, (.ptr b 0)), (4, (.ptr d 0)), (46, (vB ac))] φ)) bz) ?_ ?_
 {
 have H := d5
 cases bg : (e == 1)
 {
 have H := Av bg H
 refine Co rfl rfl rfl (Co rfl rfl rfl (V rfl (Ab ?_)))
 obtain rfl := so H
 exact And.intro rfl ⟨ep, bx, (Hp.pick ab 13 [1, 2, 3, 4, 5, 6, 7, 8, 9, 10, 11, 12, 0] rfl), (fl rfl)⟩}
 {
 have H := Au bg H
 refine V rfl ?_
 obtain ⟨eq, c1, H⟩ := bind_some H
 refine A2 rfl rfl rfl rfl (gc_is_ok bx ab c1) ?_
 obtain ⟨j4, j5⟩ := eq
 rintro _ hb ⟨er, rfl, es, d6⟩
 refine V rfl (Ab ?_)
 obtain rfl := so H
 exact And.intro rfl ⟨er, es, (Hp.pick d6 13 [1, 2, 3, 4, 5, 6, 7, 8, 9, 10, 11, 12, 0] rfl), (fl rfl)⟩}}
 {
 intro x hc hd hJ
 obtain ⟨ac, c0⟩ := bz
 obtain ⟨rfl, ad, ax, ae, d7⟩ := hJ
 refine ⟨rfl, Eo.of (F := [(0, (.ptr a 0)), (1, (.ptr b 0)), (4, (.ptr d 0)), (46, (vB ac))]) d7 ?_⟩
 refine Ab ?_
 obtain ⟨c2, d8, H⟩ := bind_some H
 refine A4 (J := (fun (v : LR ((List Ae) × Int) (PR (TRd × (List Ae)) Int)) (x : X) (φ : Fr) (s : St) => match v with | .out (c3, k) => x = .normal ∧ (∃ (af : A), Sl A0 af c3 ∧ Hp s (C0 a w (.blk b (.cells [af] 167) :: .blk d (.cells [(vS l), (vI e), (vI g), (vI j), (vI a4), (vI k), h] 78) :: .app h 3 :: R)) ∧ Fl [(0, (.ptr a 0)), (1, (.ptr b 0)), (4, (.ptr d 0))] φ) | .ret r => FinR cfg Tryz.f76 (D6 a b a3 R r) x φ s) c2) ?_ ?_
 {
 have H := d8
 refine An (t := ac) rfl (fun ag => ?_) (fun ag => ?_)
 {
 have H := Au ag H
 refine Aa (V rfl ?_)
 obtain ⟨et, bh, H⟩ := bind_some H
 rcases et with eu | j6
 {
 refine Ai (Bg ax (Hp.pick ae 13 [12, 0, 1, 2, 3, 4, 5, 6, 7, 8, 9, 10, 11] rfl) bh) rfl rfl rfl rfl ?_
 obtain ⟨j7, j8⟩ := eu
 rintro _ he ⟨ev, rfl, ew, d9⟩
 refine V rfl (Al d9 13 rfl (Af rfl rfl rfl rfl rfl rfl) rfl rfl rfl rfl rfl ?_)
 intro hf da
 refine Ab ?_
 obtain rfl := so H
 exact And.intro rfl ⟨ev, ew, (Hp.pick da 13 [1, 2, 3, 4, 5, 6, 7, 8, 9, 10, 11, 12, 0] rfl), (fl rfl)⟩}
 {
 refine Aj (Bg ax (Hp.pick ae 13 [12, 0, 1, 2, 3, 4, 5, 6, 7, 8, 9, 10, 11] rfl) bh) rfl rfl ?_
 intro hg db
 obtain rfl := so H
 exact Fin.pan (C := cfg) (fn := Tryz.f76) ⟨rfl, (Hp.pick db 14 [] rfl)⟩}}
 {
 have H := Av ag H
 refine A7 ?_
 obtain rfl := so H
 exact And.intro rfl ⟨ad, ax, ae, (fl rfl)⟩}}
 {
 rcases c2 with ⟨c3, k⟩ | j9
 {
 intro x hh hi hJ
 obtain ⟨rfl, af, c4, ah, dc⟩ := hJ
 refine Be (F := [(0, (.ptr a 0)), (1, (.ptr b 0)), (4, (.ptr d 0))]) dc (Ac (Ac (Aa (V rfl (W (Ag ah 13 rfl rfl rfl rfl) rfl ?_)))))
 refine V rfl (V rfl ?_)
 obtain ⟨c5, dd, H⟩ := bind_some H
 refine H1 3 (J := (fun (v : (Bool × (List Ae))) (x : X) (φ : Fr) (s : St) => match v with | (ai, c6) => x = .normal ∧ (∃ (aj : A), Sl A0 aj c6 ∧ Hp s (C0 a w (.blk b (.cells [aj] 167) :: .blk d (.cells [(vS l), (vI e), (vI g), (vI j), (vI a4), (vI k), h] 78) :: .app h 3 :: R)) ∧ Fl [(0, (.ptr a 0)), (1, (.ptr b 0)), (4, (.ptr d 0)), (56, (vB ai))] φ)) c5) ?_ ?_
 {
 have H := dd
 cases bi : (e != 1)
 {
 have H := Av bi H
 refine Co rfl rfl rfl (Co rfl rfl rfl (V rfl (Ab ?_)))
 obtain rfl := so H
 exact And.intro rfl ⟨af, c4, ah, (fl rfl)⟩}
 {
 have H := Au bi H
 refine V rfl ?_
 obtain ⟨ex, c7, H⟩ := bind_some H
 refine A2 rfl rfl rfl rfl (gc_is_ok c4 (Hp.pick ah 13 [12, 0, 1, 2, 3, 4, 5, 6, 7, 8, 9, 10, 11] rfl) c7) ?_
 obtain ⟨ja, jb⟩ := ex
 rintro _ hj ⟨ey, rfl, ez, de⟩
 refine V rfl (Ab ?_)
 obtain rfl := so H
 exact And.intro rfl ⟨ey, ez, (Hp.pick de 13 [1, 2, 3, 4, 5, 6, 7, 8, 9, 10, 11, 12, 0] rfl), (fl rfl)⟩}}
 {
 intro x hk hl hJ
 obtain ⟨ai, c6⟩ := c5
 obtain ⟨rfl, aj, ay, ak, df⟩ := hJ
 refine ⟨rfl, Eo.of (F := [(0, (.ptr a 0)), (1, (.ptr b 0)), (4, (.ptr d 0)), (56, (vB ai))]) df ?_⟩
 refine Ab ?_
 obtain ⟨c8, dg, H⟩ := bind_some H
 refine A4 (J := (fun (v : LR ((List Ae) × Int) (PR (TRd × (List Ae)) Int)) (x : X) (φ : Fr) (s : St) => match v with | .out (c9, p) => x = .normal ∧ (∃ (az : A), Sl A0 az c9 ∧ Hp s (C0 a w (.blk b (.cells [az] 167) :: .blk d (.cells [(vS l), (vI e), (vI g), (vI j), (vI p), (vI k), h] 78) :: .app h 3 :: R)) ∧ Fl [(0, (.ptr a 0)), (1, (.ptr b 0)), (4, (.ptr d 0))] φ) | .ret r => FinR cfg Tryz.f76 (D6 a b a3 R r) x φ s) c8) ?_ ?_
 {
 have H := dg
 refine An (t := ai) rfl (fun al => ?_) (fun al => ?_)
 {
 have H := Au al H
 refine Aa (V rfl ?_)
 obtain ⟨f0, bj, H⟩ := bind_some H
 rcases f0 with f1 | jc
 {
 refine Ai (Bg ay (Hp.pick ak 13 [12, 0, 1, 2, 3, 4, 5, 6, 7, 8, 9, 10, 11] rfl) bj) rfl rfl rfl rfl ?_
 obtain ⟨jd, je⟩ := f1
 rintro _ hm ⟨f2, rfl, f3, dh⟩
 refine V rfl (Al dh 13 rfl (Af rfl rfl rfl rfl rfl rfl) rfl rfl rfl rfl rfl ?_)
 intro hn di
 refine Ab ?_
 obtain rfl := so H
 exact And.intro rfl ⟨f2, f3, (Hp.pick di 13 [1, 2, 3, 4, 5, 6, 7, 8, 9, 10, 11, 12, 0] rfl), (fl rfl)⟩}
 {
 refine Aj (Bg ay (Hp.pick ak 13 [12, 0, 1, 2, 3, 4, 5, 6, 7, 8, 9, 10, 11] rfl) bj) rfl rfl ?_
 intro ho dj
 obtain rfl := so H
 exact Fin.pan (C := cfg) (fn := Tryz.f76) ⟨rfl, (Hp.pick dj 14 [] rfl)⟩}}
 {
 have H := Av al H
 refine A7 ?_
 obtain rfl := so H
 exact And.intro rfl ⟨aj, ay, ak, (fl rfl)⟩}}
 {
 rcases c8 with ⟨c9, p⟩ | jf
 {
 intro x hq hr hJ
 obtain ⟨rfl, az, f4, dk, dl⟩ := hJ
 refine Be (F := [(0, (.ptr a 0)), (1, (.ptr b 0)), (4, (.ptr d 0))]) dl (Ac (Ac (Aa (V rfl ?_))))
 obtain ⟨f5, ca, H⟩ := bind_some H
 refine A2 rfl rfl rfl rfl (gc_is_ok f4 (Hp.pick dk 13 [12, 0, 1, 2, 3, 4, 5, 6, 7, 8, 9, 10, 11] rfl) ca) ?_
 obtain ⟨f6, f7⟩ := f5
 rintro _ hs ⟨cb, rfl, cc, bk⟩
 refine Ab ?_
 obtain ⟨cd, dm, H⟩ := bind_some H
 refine A4 (J := (fun (v : LR ((List Int) × (List Ae)) (PR (TRd × (List Ae)) Int)) (x : X) (φ : Fr) (s : St) => match v with | .out (b0, ce) => x = .normal ∧ (∃ (q a1 : A), Sl (rI .i64) q b0 ∧ Sl A0 a1 ce ∧ Hp s (C0 a w (.blk d (.cells [(vS l), (vI e), (vI g), (vI j), (vI p), (vI k), q] 78) :: .blk b (.cells [a1] 167) :: .app q 3 :: R)) ∧ Fl [(0, (.ptr a 0)), (4, (.ptr d 0))] φ) | .ret r => FinR cfg Tryz.f76 (D6 a b a3 R r) x φ s) cd) ?_ ?_
 {
 have H := dm
 refine An (t := f6) rfl (fun am => ?_) (fun am => ?_)
 {
 have H := Au am H
 refine Bb ?_
 obtain ⟨cf, dn, H⟩ := bind_some H
 refine A4 (J := _) (D8 (fl rfl) (Cw (f := (fun m (i : ((List Ae) × (List Int)) × (A × A)) => Es n m i.1.1 i.1.2)) (G := (fun (i : ((List Ae) × (List Int)) × (A × A)) => ([(0, (.ptr a 0)), (1, (.ptr b 0)), (4, (.ptr d 0))] : List (Nat × A)))) (I := (fun (i : ((List Ae) × (List Int)) × (A × A)) (s : St) => Sl A0 i.2.1 i.1.1 ∧ Sl (rI .i64) i.2.2 i.1.2 ∧ Hp s (C0 a w (.blk b (.cells [i.2.1] 167) :: .blk d (.cells [(vS l), (vI e), (vI g), (vI j), (vI p), (vI k), i.2.2] 78) :: .app i.2.2 3 :: R)))) (J := (fun (v : LR ((List Int) × (List Ae)) (PR (TRd × (List Ae)) Int)) (x : X) (φ : Fr) (s : St) => match v with | .out (cg, ch) => x = (.exit 1) ∧ (∃ (a2 an : A), Sl (rI .i64) a2 cg ∧ Sl A0 an ch ∧ Hp s (C0 a w (.blk d (.cells [(vS l), (vI e), (vI g), (vI j), (vI p), (vI k), a2] 78) :: .blk b (.cells [an] 167) :: .app a2 3 :: R)) ∧ Fl [(0, (.ptr a 0)), (4, (.ptr d 0))] φ) | .ret r => FinR cfg Tryz.f76 (D6 a b a3 R r) x φ s)) (fun _ => rfl) ?_ n ((f7, br), (cb, h)) _ cf ⟨cc, ec, (Hp.pick bk 13 [1, 2, 3, 4, 5, 6, 7, 8, 9, 10, 11, 12, 0] rfl)⟩ dn)) ?_
 {
 rintro m ⟨⟨f8, f9⟩, ⟨fa, fb⟩⟩ gn v ⟨ao, b1, go⟩ H ih
 change Es n (m + 1) f8 f9 = some v at H
 rw [Es] at H
 change Ec _ _ _ [(0, (.ptr a 0)), (1, (.ptr b 0)), (4, (.ptr d 0))] gn _
 refine Ac (Ac (Aa (V rfl ?_)))
 obtain ⟨fc, ci, H⟩ := bind_some H
 refine A2 rfl rfl rfl rfl (Hl ao (Hp.pick go 13 [12, 0, 1, 2, 3, 4, 5, 6, 7, 8, 9, 10, 11] rfl) ci) ?_
 rintro _ ht ⟨rfl, ap⟩
 refine Ab ?_
 refine An (t := fc) rfl (fun aq => ?_) (fun aq => ?_)
 {
 have H := Au aq H
 refine A7 (Bb (Ac (Aa (V rfl ?_))))
 obtain ⟨fd, bl, H⟩ := bind_some H
 rcases fd with fe | jg
 {
 refine Ai (Bj ao ap bl) rfl rfl rfl rfl ?_
 obtain ⟨ar, ff⟩ := fe
 rintro _ hu ⟨jh, fg, rfl, ji, fh, au⟩
 refine V rfl (V rfl (Ab (Ac (Aa (V rfl ?_)))))
 refine W (Ag au 13 rfl rfl rfl rfl) rfl (W (Cj b1 rfl rfl rfl rfl rfl Tryz.underlying76) rfl (V rfl ?_))
 obtain ⟨fi, bm, H⟩ := bind_some H
 rcases fi with jj | jk
 {
 refine Ai (Ah au bm) rfl rfl rfl rfl ?_
 rintro _ hv ⟨rfl, bn⟩
 refine Ab (Aa (V rfl (W (Ag bn 13 rfl rfl rfl rfl) rfl (V rfl ?_))))
 refine W (Cy (Am rfl rfl rfl rfl rfl Bc) rfl (Ak rfl rfl rfl) Tryz.underlying76 rfl rfl rfl rfl (by decide) rfl) rfl ?_
 have fj : Sl (rI .i64) (.sl 1 [(vI ar.f_Num)] .ex) ([ar.f_Num] : List Int) := .inr ⟨_, _, rfl, (.cons (c := [(vI ar.f_Num)]) rfl .nil)⟩
 have dp := Dv bn 3 1 [(vI ar.f_Num)]
 obtain ⟨fk, cj, H⟩ := bind_some H
 refine Hy dp 15 rfl b1 (New.of fj) cj rfl rfl rfl rfl rfl rfl rfl Tryz.underlying76 rfl Tryz.underlying76 rfl rfl rfl rfl rfl rfl rfl rfl ?_
 intro fm hw b2 dq
 refine V rfl (Al dq 14 rfl (Af (b2.cells) rfl rfl (by exact on b2.isOne on0) rfl rfl) rfl rfl rfl rfl rfl ?_)
 intro hx dr
 refine Ab ?_
 exact Be (fl rfl) (ih ((ff, fk), (fg, fm)) _ ⟨fh, b2, (Hp.pick dr 14 [2, 3, 4, 5, 6, 7, 8, 9, 10, 11, 12, 13, 1] rfl)⟩ H)}
 {
 refine Aj (Ah au bm) rfl rfl ?_
 intro hy ds
 obtain rfl := so H
 exact Fin.pan (C := cfg) (fn := Tryz.f76) ⟨rfl, (Hp.pick ds 15 [] rfl)⟩}}
 {
 refine Aj (Bj ao ap bl) rfl rfl ?_
 intro hz dt
 obtain rfl := so H
 exact Fin.pan (C := cfg) (fn := Tryz.f76) ⟨rfl, (Hp.pick dt 14 [] rfl)⟩}}
 {
 have H := Av aq H
 refine D9 ?_
 obtain rfl := so H
 exact And.intro rfl ⟨fb, fa, b1, ao, (Hp.pick ap 14 [1, 2, 3, 4, 5, 6, 7, 8, 9, 10, 11, 12, 13, 0] rfl), (fl rfl)⟩}}
 {
 rcases cf with ⟨cg, ch⟩ | jl
 {
 intro x i0 i1 hJ
 obtain ⟨rfl, a2, an, fo, fp, du, dv⟩ := hJ
 obtain rfl := so H
 exact And.intro rfl ⟨a2, an, fo, fp, du, (Fl.trans (G := [(0, (.ptr a 0)), (4, (.ptr d 0))]) (fl rfl) dv)⟩}
 {
 intro x i2 i3 hJ
 obtain rfl := so H
 cases x <;> first | exact hJ | exact hJ.elim}}}
 {
 have H := Av am H
 refine A7 ?_
 obtain rfl := so H
 exact And.intro rfl ⟨h, cb, ec, cc, (Hp.pick bk 14 [1, 2, 3, 4, 5, 6, 7, 8, 9, 10, 11, 12, 13, 0] rfl), (fl rfl)⟩}}
 {
 rcases cd with ⟨b0, ce⟩ | jm
 {
 intro x i4 i5 hJ
 obtain ⟨rfl, q, a1, fq, fr, av, dw⟩ := hJ
 refine Be (F := [(0, (.ptr a 0)), (4, (.ptr d 0))]) dw ?_
 obtain ⟨b3, dx, H⟩ := bind_some H
 refine A4 (J := (fun (b3 : TRd) (x : X) (φ : Fr) (s : St) => x = .normal ∧ (∃ (b4 : (List A)), E2 a3 b3 b4 ∧ Hp s (C0 a b4 (.blk b (.cells [a1] 167) :: R)) ∧ Fl [] φ)) b3) ?_ ?_
 {
 have H := dx
 refine Fv (by kernel_rfl) ?_
 iterate 5 refine V rfl ?_
 obtain ⟨fs, ft, fu, jn, fv, fw, fx, fy, fz, g0, g1, rfl, g2, g3, g4, g5, g6, g7, g8, g9, ga, gb, gc⟩ := cl
 refine W (Ag av 0 rfl rfl rfl rfl) rfl (W (Ag av 12 rfl rfl rfl rfl) rfl ?_)
 refine W (Cy (Am rfl rfl rfl rfl rfl Bc) rfl (Ak rfl rfl rfl) Tryz.underlying30 rfl rfl rfl rfl (by decide) rfl) rfl ?_
 have gd : Sl rTClass (.sl 7 [(vS l), (vI e), (vI g), (vI j), (vI p), (vI k), q] .ex) ([(Ee.mk l e g j p k b0)] : List Ee) := .inr ⟨_, _, rfl, (.cons (c := [(vS l), (vI e), (vI g), (vI j), (vI p), (vI k), q]) ⟨q, rfl, fq⟩ .nil)⟩
 have dy := Dv av 78 7 [(vS l), (vI e), (vI g), (vI j), (vI p), (vI k), q]
 obtain ⟨jo, ck, H⟩ := bind_some H
 refine Hy dy 5 rfl g5 (New.of gd) ck rfl rfl rfl rfl rfl rfl rfl Tryz.underlying30 rfl Tryz.underlying30 rfl rfl rfl rfl rfl rfl rfl rfl ?_
 intro ge i6 b5 dz
 iterate 3 refine V rfl ?_
 refine Al dz 1 rfl (Af (b5.cells) rfl rfl (by exact on b5.isOne on0) rfl rfl) rfl rfl rfl rfl rfl ?_
 intro i7 e0
 refine Ab ?_
 obtain rfl := so H
 exact And.intro rfl (And.intro rfl ⟨_, ⟨fs, ft, fu, ge, fv, fw, fx, fy, fz, g0, g1, rfl, g2, g3, g4, b5, g6, g7, g8, g9, ga, gb, gc⟩, (Hp.pick e0 16 [1, 2, 3, 4, 5, 6, 7, 8, 9, 10, 11, 12, 14] rfl), (.nil')⟩)}
 {
 intro x i8 i9 hJ
 obtain ⟨rfl, b4, gf, e1, e2⟩ := hJ
 obtain rfl := so H
 refine Fin.mkNφ (C := cfg) (fn := Tryz.f76) e2 rfl ?_
 exact ⟨_, a1, rfl, gf, fr, (Hp.pick e1 13 [0, 12, 1, 2, 3, 4, 5, 6, 7, 8, 9, 10, 11] rfl)⟩}}
 {
 intro x ia ib hJ
 obtain rfl := so H
 cases x <;> first | exact hJ | exact hJ.elim}}}
 {
 intro x ic id hJ
 obtain rfl := so H
 cases x <;> first | exact hJ | exact hJ.elim}}}}
 {
 intro x ie ig hJ
 obtain rfl := so H
 cases x <;> first | exact hJ | exact hJ.elim}}}}
 {
 refine Aj (Bg bw (Hp.pick be 13 [12, 0, 1, 2, 3, 4, 5, 6, 7, 8, 9, 10, 11] rfl) bf) rfl rfl ?_
 intro ii e3
 obtain rfl := so H
 exact Fin.pan (C := cfg) (fn := Tryz.f76) ⟨rfl, (Hp.pick e3 14 [] rfl)⟩}}
 {
 intro x ij ik hJ
 obtain rfl := so H
 cases x <;> first | exact hJ | exact hJ.elim}}}
 {
 refine Aj (A1 eb (Hp.pick b9 13 [12, 0, 1, 2, 3, 4, 5, 6, 7, 8, 9, 10, 11] rfl) ba) rfl rfl ?_
 intro il e4
 obtain rfl := so H
 exact Fin.pan (C := cfg) (fn := Tryz.f76) ⟨rfl, (Hp.pick e4 14 [] rfl)⟩}}
 {
 intro x im io hJ
 obtain rfl := so H
 cases x <;> first | exact hJ | exact hJ.elim}}

theorem gr_readForm_f77_ok {n : Nat} {b : Nat} {d : Nat} {a5 : TRd} {d5 : (List Ae)} {id : A} {gn : (List A)} {ie : A} {R : List Res} {σ : St} (n7 : isOne id = true) (ig : E2 id a5 gn) (ii : Sl A0 ie d5) (hp : Hp σ (C0 b gn (.blk d (.cells [ie] 167) :: R))) {r : (PR (TRd × (List Ae)) Int)} (H : I6 n a5 d5 = some r) : CaO cfg 77 [(.ptr b 0), (.ptr d 0)] σ (Em b d R r) := by
 unfold I6 at H
 refine CaO.enterL (G := [(0, (.ptr b 0)), (1, (.ptr d 0))]) Tryz.func77 rfl rfl rfl rfl (Ac ?_)
 obtain ⟨ce, d6, H⟩ := bind_some H
 refine A4 (J := (fun (v : LR ((List Ae) × ByteArray × ByteArray × (List Da) × (List B5) × (List Ao)) (PR (TRd × (List Ae)) Int)) (x : X) (φ : Fr) (s : St) => match v with | .out (gk, a0, a1, d7, bm, ax) => x = .normal ∧ (∃ (a : Nat), ∃ (d8 bn a9 a6 : A), Sl A0 d8 gk ∧ Sl rTArg bn d7 ∧ Sl Hm a9 bm ∧ Sl Cm a6 ax ∧ Hp s (C0 b gn (.blk d (.cells [d8] 167) :: .blk a (.cells [(vS a0), (vS a1), bn, a9, a6] 50) :: .app bn 130 :: .app a9 132 :: .app a6 52 :: R)) ∧ Fl [(0, (.ptr b 0)), (1, (.ptr d 0)), (4, (.ptr a 0))] φ) | .ret r => FinR cfg Tryz.f77 (Em b d R r) x φ s) ce) ?_ ?_
 {
 have H := d6
 refine C5 (by kernel_rfl) ?_
 iterate 4 refine Az rfl rfl rfl rfl rfl rfl ?_
 obtain ⟨mv, mw, mx, my, mz, n0, n1, lf, lg, lh, li, rfl, n2, n3, n4, n5, gl, n6, lj, lk, ll, lm, ln⟩ := ig
 refine Az (Ag hp 0 rfl rfl rfl rfl) rfl rfl rfl rfl rfl (Az rfl rfl rfl rfl rfl rfl ?_)
 obtain ⟨go, cf, H⟩ := bind_some H
 rcases go with d9 | lo
 rotate_left
 {
 refine Bn (A1 ii (Hp.pick hp 13 [12, 0, 1, 2, 3, 4, 5, 6, 7, 8, 9, 10, 11] rfl) cf) rfl rfl rfl rfl rfl (by kernel_rfl) ?_
 intro jf et
 obtain rfl := so H
 exact Bm (C := cfg) (fn := Tryz.f77) ⟨rfl, (Hp.pick et 12 [] rfl)⟩}
 refine Bk (CaO.val (A1 ii (Hp.pick hp 13 [12, 0, 1, 2, 3, 4, 5, 6, 7, 8, 9, 10, 11] rfl) cf)) rfl rfl rfl rfl rfl (by obtain ⟨gp, gq⟩ := d9; rintro _ eu ⟨gr, rfl, c1, au⟩; exact (Ad rfl (B7 rfl (Ag au 1 rfl rfl rfl rfl) (Ad rfl (Ad rfl (Ad rfl (Ad rfl A6))))))) ?_
 obtain ⟨gp, gq⟩ := d9
 rintro _ eu ⟨gr, rfl, c1, au⟩
 obtain ⟨gs, cg, H⟩ := bind_some H
 rcases gs with lp | lq
 rotate_left
 {
 refine Bn (gisadl_fresh_118_83_ok gl au cg) rfl rfl rfl rfl rfl (by kernel_rfl) ?_
 intro jg ev
 obtain rfl := so H
 exact Bm (C := cfg) (fn := Tryz.f77) ⟨rfl, (Hp.pick ev 13 [] rfl)⟩}
 refine Bk (CaO.val (gisadl_fresh_118_83_ok gl au cg)) rfl rfl rfl rfl rfl (fun _ _ _ => (Ad rfl (Bd (by kernel_rfl) (Ad rfl (Ad rfl (Ad rfl (Ad rfl A6))))))) ?_
 rintro _ jh ⟨rfl, ch⟩
 refine A9 rfl rfl rfl rfl rfl (Ar rfl (Ar rfl A8)) ?_
 obtain ⟨gt, ci, H⟩ := bind_some H
 rcases gt with gu | lr
 rotate_left
 {
 refine Bn (gc_text_ok c1 ch ci) rfl rfl rfl rfl rfl (by kernel_rfl) ?_
 intro ji ew
 obtain rfl := so H
 exact Bm (C := cfg) (fn := Tryz.f77) ⟨rfl, (Hp.pick ew 12 [] rfl)⟩}
 refine Bk (CaO.val (gc_text_ok c1 ch ci)) rfl rfl rfl rfl rfl (fun _ _ _ => (Ad rfl (Ad rfl (Bd (by kernel_rfl) (Ad rfl (Ad rfl (Ad rfl (Ad rfl A6)))))))) ?_
 obtain ⟨ls, lt⟩ := gu
 rintro _ jj ⟨gv, rfl, gw, ex⟩
 refine A9 (Bh (Am rfl rfl rfl rfl rfl (Am rfl rfl rfl rfl rfl Bc)) rfl (Ak rfl rfl (Ak rfl rfl rfl)) Tryz.underlying50 rfl rfl) rfl rfl rfl rfl (Ar rfl (Ar rfl (Ar rfl A8))) ?_
 refine Ed.alloc (z := [(vS (ByteArray.mk #[])), (vS (ByteArray.mk #[])), A5, A5, A5]) ex rfl rfl rfl rfl rfl (fun b' σ' hp' => ((Ad rfl (Ad rfl (Ad rfl (B7 rfl (Ag hp' 2 rfl rfl rfl rfl) (Ad rfl (Ad rfl (Ad rfl (Ad rfl A6)))))))))) ?_
 intro gx jk ey
 refine Gm ey 0 rfl (Af rfl rfl rfl rfl rfl rfl) rfl rfl rfl rfl rfl (fun σ' hp' => ((Ad rfl (Ad rfl (Ad rfl (Bd (by kernel_rfl) (Ad rfl (Ad rfl (Ad rfl (Ad rfl A6)))))))))) ?_
 intro jl ez
 refine Dh ?_
 obtain rfl := so H
 exact And.intro rfl ⟨gx, gv, A5, A5, A5, gw, Sl.nil, Sl.nil, Sl.nil, (Hp.pick (As (As (As ez 130) 132) 52) 17 [5, 6, 7, 8, 9, 10, 11, 12, 13, 14, 15, 16, 4, 3, 2, 1, 0] rfl), (fl rfl)⟩}
 {
 rcases ce with ⟨gk, a0, a1, d7, bm, ax⟩ | jm
 {
 intro x jn jo hJ
 obtain ⟨rfl, a, d8, bn, a9, a6, gm, ij, da, bo, f0, f1⟩ := hJ
 refine Be (F := [(0, (.ptr b 0)), (1, (.ptr d 0)), (4, (.ptr a 0))]) f1 (Ac (Aa ?_))
 iterate 3 refine V rfl ?_
 obtain ⟨h, j, k, l, a2, o, p, q, u, w, y, rfl, ab, ac, ad, ae, af, ag, ah, ai, aj, ak, al⟩ := ig
 refine Al f0 0 rfl (Af rfl rfl rfl rfl rfl rfl) rfl rfl rfl rfl rfl ?_
 intro jp cj
 refine Ab (Ac (Ac (Aa (V rfl ?_))))
 obtain ⟨f2, bp, H⟩ := bind_some H
 rcases f2 with f3 | jq
 {
 refine Ai (Bj gm (Hp.pick cj 13 [12, 0, 1, 2, 3, 4, 5, 6, 7, 8, 9, 10, 11] rfl) bp) rfl rfl rfl rfl ?_
 obtain ⟨lu, lv⟩ := f3
 rintro _ jr ⟨lw, b7, rfl, db, dc, ck⟩
 obtain ⟨f4, bq, H⟩ := bind_some H
 rcases f4 with gy | js
 {
 refine Ai (Bo db ck bq) rfl rfl rfl rfl ?_
 rintro _ jt ⟨g, gz, rfl, h0, f5⟩
 refine V rfl (Ab (Bb ?_))
 obtain ⟨dd, f6, H⟩ := bind_some H
 refine A4 (J := _) (D8 (fl rfl) (Cw (f := (fun m (i : ((List Da) × (List Ae)) × (A × A)) => E5 n a5 a0 a1 bm ax m i.1.1 i.1.2)) (G := (fun (i : ((List Da) × (List Ae)) × (A × A)) => ([(0, (.ptr b 0)), (1, (.ptr d 0)), (4, (.ptr a 0)), (5, (.ptr g 0))] : List (Nat × A)))) (I := (fun (i : ((List Da) × (List Ae)) × (A × A)) (s : St) => Sl rTArg i.2.1 i.1.1 ∧ Sl A0 i.2.2 i.1.2 ∧ Hp s (C0 b [(vS a5.f_Desc.f_Name), (vI a5.f_Desc.f_Order), h, j, k, l, a2, o, p, q, u, w, y, (.ptr a 0)] (.blk a (.cells [(vS a0), (vS a1), i.2.1, a9, a6] 50) :: .blk d (.cells [b7] 167) :: .blk g (.cells [i.2.2] 167) :: .app i.2.1 130 :: .app a9 132 :: .app a6 52 :: R)))) (J := (fun (v : LR (List Da) (PR (TRd × (List Ae)) Int)) (x : X) (φ : Fr) (s : St) => match v with | .out am => x = (.exit 0) ∧ (∃ (e : A), Sl rTArg e am ∧ Hp s (C0 b [(vS a5.f_Desc.f_Name), (vI a5.f_Desc.f_Order), h, j, k, l, a2, o, p, q, u, w, y, (.ptr a 0)] (.blk a (.cells [(vS a0), (vS a1), e, a9, a6] 50) :: .blk d (.cells [b7] 167) :: .app e 130 :: .app a9 132 :: .app a6 52 :: R)) ∧ Fl [(0, (.ptr b 0)), (1, (.ptr d 0)), (4, (.ptr a 0))] φ) | .ret r => FinR cfg Tryz.f77 (Em b d R r) x φ s)) (fun _ => rfl) ?_ n ((d7, gy.f_rest), (bn, gz)) _ dd ⟨ij, h0, (Hp.pick f5 15 [2, 3, 4, 5, 6, 7, 8, 9, 10, 11, 12, 13, 14, 1, 0] rfl)⟩ f6)) ?_
 {
 rintro m ⟨⟨h1, h2⟩, ⟨c2, lx⟩⟩ br v ⟨ap, c3, bs⟩ H ih
 change E5 n a5 a0 a1 bm ax (m + 1) h1 h2 = some v at H
 rw [E5] at H
 change Ec _ _ _ [(0, (.ptr b 0)), (1, (.ptr d 0)), (4, (.ptr a 0)), (5, (.ptr g 0))] br _
 refine Ac (Ac (Aa (V rfl ?_)))
 obtain ⟨h3, de, H⟩ := bind_some H
 refine A2 rfl rfl rfl rfl (Hl c3 (Hp.pick bs 15 [14, 0, 1, 2, 3, 4, 5, 6, 7, 8, 9, 10, 11, 12, 13] rfl) de) ?_
 rintro _ ju ⟨rfl, b8⟩
 refine Ab ?_
 refine An (t := h3) rfl (fun b9 => ?_) (fun b9 => ?_)
 {
 have H := Au b9 H
 refine A7 (Bb (Ac (Aa (V rfl ?_))))
 obtain ⟨h4, cl, H⟩ := bind_some H
 rcases h4 with h5 | ly
 {
 refine Ai (Bj c3 b8 cl) rfl rfl rfl rfl ?_
 obtain ⟨lz, h6⟩ := h5
 rintro _ jv ⟨m0, c4, rfl, df, h7, cm⟩
 obtain ⟨h8, cn, H⟩ := bind_some H
 rcases h8 with m1 | m2
 {
 refine Ai (Bo df cm cn) rfl rfl rfl rfl ?_
 rintro _ jw ⟨a7, m3, rfl, dg, ba⟩
 refine V rfl (Ab (Ac ?_))
 obtain ⟨dh, f7, H⟩ := bind_some H
 refine A4 (J := (fun (v : LR (ByteArray × (List Ae)) (PR (TRd × (List Ae)) Int)) (x : X) (φ : Fr) (s : St) => match v with | .out (an, di) => x = .normal ∧ (∃ (c5 : A), Sl A0 c5 di ∧ Hp s (C0 b [(vS a5.f_Desc.f_Name), (vI a5.f_Desc.f_Order), h, j, k, l, a2, o, p, q, u, w, y, (.ptr a 0)] (.blk a (.cells [(vS a0), (vS a1), c2, a9, a6] 50) :: .blk d (.cells [b7] 167) :: .blk g (.cells [c4] 167) :: .blk a7 (.cells [c5] 167) :: .app c2 130 :: .app a9 132 :: .app a6 52 :: R)) ∧ Fl [(0, (.ptr b 0)), (1, (.ptr d 0)), (4, (.ptr a 0)), (5, (.ptr g 0)), (6, (.ptr a7 0)), (7, (vS an))] φ) | .ret r => FinR cfg Tryz.f77 (Em b d R r) x φ s) dh) ?_ ?_
 {
 have H := f7
 refine C5 (by kernel_rfl) (Az rfl rfl rfl rfl rfl rfl (Az (Ag ba 14 rfl rfl rfl rfl) rfl rfl rfl rfl rfl (Az rfl rfl rfl rfl rfl rfl ?_)))
 obtain ⟨h9, co, H⟩ := bind_some H
 rcases h9 with dj | m4
 rotate_left
 {
 refine Bn (A1 dg ba co) rfl rfl rfl rfl rfl (by kernel_rfl) ?_
 intro jx f8
 obtain rfl := so H
 exact Bm (C := cfg) (fn := Tryz.f77) ⟨rfl, (Hp.pick f8 18 [] rfl)⟩}
 refine Bk (CaO.val (A1 dg ba co)) rfl rfl rfl rfl rfl (by obtain ⟨ha, hb⟩ := dj; rintro _ f9 ⟨dk, rfl, dl, av⟩; exact (Ad rfl (B7 rfl (Ag av 14 rfl rfl rfl rfl) (Ad rfl A6)))) ?_
 obtain ⟨ha, hb⟩ := dj
 rintro _ f9 ⟨dk, rfl, dl, av⟩
 obtain ⟨hc, cp, H⟩ := bind_some H
 rcases hc with m5 | m6
 rotate_left
 {
 refine Bn (Ks ap av cp) rfl rfl rfl rfl rfl (by kernel_rfl) ?_
 intro jy fa
 obtain rfl := so H
 exact Bm (C := cfg) (fn := Tryz.f77) ⟨rfl, (Hp.pick fa 19 [] rfl)⟩}
 refine Bk (CaO.val (Ks ap av cp)) rfl rfl rfl rfl rfl (fun _ _ _ => (Ad rfl (Bd (by kernel_rfl) (Ad rfl A6)))) ?_
 rintro _ jz ⟨rfl, fb⟩
 refine A9 rfl rfl rfl rfl rfl (Ar rfl (Ar rfl A8)) (Dh ?_)
 obtain rfl := so H
 exact And.intro rfl ⟨dk, dl, (Hp.pick fb 16 [2, 3, 4, 5, 6, 7, 8, 9, 10, 11, 12, 13, 14, 15, 1, 0] rfl), (fl rfl)⟩}
 {
 rcases dh with ⟨an, di⟩ | m7
 {
 intro x k0 k1 hJ
 obtain ⟨rfl, c5, dm, bb, fc⟩ := hJ
 refine Be (F := [(0, (.ptr b 0)), (1, (.ptr d 0)), (4, (.ptr a 0)), (5, (.ptr g 0)), (6, (.ptr a7 0)), (7, (vS an))]) fc (Ac ?_)
 obtain ⟨dn, fd, H⟩ := bind_some H
 refine A4 (J := (fun (v : LR ((List Da) × (List Ae)) (PR (TRd × (List Ae)) Int)) (x : X) (φ : Fr) (s : St) => match v with | .out (c6, dp) => x = .normal ∧ (∃ (ay c7 : A), Sl rTArg ay c6 ∧ Sl A0 c7 dp ∧ Hp s (C0 b [(vS a5.f_Desc.f_Name), (vI a5.f_Desc.f_Order), h, j, k, l, a2, o, p, q, u, w, y, (.ptr a 0)] (.blk a (.cells [(vS a0), (vS a1), ay, a9, a6] 50) :: .blk d (.cells [b7] 167) :: .blk g (.cells [c4] 167) :: .blk a7 (.cells [c7] 167) :: .app ay 130 :: .app a9 132 :: .app a6 52 :: R)) ∧ Fl [(0, (.ptr b 0)), (1, (.ptr d 0)), (4, (.ptr a 0)), (5, (.ptr g 0)), (6, (.ptr a7 0))] φ) | .ret r => FinR cfg Tryz.f77 (Em b d R r) x φ s) dn) ?_ ?_
 {
 have H := fd
 refine C5 (by kernel_rfl) (Az rfl rfl rfl rfl rfl rfl (Az (Ag bb 12 rfl rfl rfl rfl) rfl rfl rfl rfl rfl ?_))
 iterate 3 refine Az rfl rfl rfl rfl rfl rfl ?_
 obtain ⟨hd, cq, H⟩ := bind_some H
 rcases hd with dq | m8
 rotate_left
 {
 refine Bn (gr_class_ok ap da bo ⟨h, j, k, l, a2, o, p, q, u, w, y, rfl, ab, ac, ad, ae, af, ag, ah, ai, aj, ak, al⟩ dm (Hp.pick bb 19 [0, 1, 2, 3, 4, 5, 6, 7, 8, 9, 10, 11, 12, 15, 16, 17, 18, 13, 14] rfl) cq) rfl rfl rfl rfl rfl (by kernel_rfl) ?_
 intro k2 fe
 obtain rfl := so H
 exact Bm (C := cfg) (fn := Tryz.f77) ⟨rfl, (Hp.pick fe 2 [] rfl)⟩}
 refine Bk (CaO.val (gr_class_ok ap da bo ⟨h, j, k, l, a2, o, p, q, u, w, y, rfl, ab, ac, ad, ae, af, ag, ah, ai, aj, ak, al⟩ dm (Hp.pick bb 19 [0, 1, 2, 3, 4, 5, 6, 7, 8, 9, 10, 11, 12, 15, 16, 17, 18, 13, 14] rfl) cq)) rfl rfl rfl rfl rfl (by obtain ⟨az, he⟩ := dq; rintro _ ff ⟨dr, rfl, ds, bc⟩; exact (Ad rfl (Ad rfl (Ad rfl (B7 rfl (Ag bc 1 rfl rfl rfl rfl) (Ad rfl A6)))))) ?_
 obtain ⟨az, he⟩ := dq
 rintro _ ff ⟨dr, rfl, ds, bc⟩
 refine A9 (Bh (Am rfl rfl rfl rfl rfl (Am rfl rfl rfl rfl rfl Bc)) rfl (Ak rfl rfl (Ak rfl rfl rfl)) Tryz.underlying130 rfl rfl) rfl rfl rfl rfl (Ar rfl A8) ?_
 refine A9 (Cy (Am rfl rfl rfl rfl rfl Bc) rfl (Ak rfl rfl rfl) Tryz.underlying46 rfl rfl rfl rfl (by decide) rfl) rfl rfl rfl rfl (Ar rfl A8) ?_
 have hf : Sl rTArg (.sl 2 [(vS an), (vI az)] .ex) ([(Da.mk an az)] : List Da) := .inr ⟨_, _, rfl, (.cons (c := [(vS an), (vI az)]) rfl .nil)⟩
 have fg := Dv bc 130 2 [(vS an), (vI az)]
 obtain ⟨m9, dt, H⟩ := bind_some H
 refine Js fg 15 rfl ap (New.of hf) dt rfl rfl rfl rfl rfl rfl rfl Tryz.underlying46 rfl Tryz.underlying46 rfl rfl rfl rfl rfl rfl rfl rfl (fun a' σ' h' hp' => ((Ad rfl (Ad rfl (Ad rfl (Ad rfl (Ad rfl (Bd (by kernel_rfl) (Ad rfl A6))))))))) ?_
 intro hg k3 c8 fh
 refine A9 rfl rfl rfl rfl rfl (Ar rfl (Ar rfl A8)) (Gm fh 2 rfl (Af (c8.cells) rfl rfl (by exact on c8.isOne on0) rfl rfl) rfl rfl rfl rfl rfl (fun σ' hp' => ((Ad rfl (Ad rfl (Ad rfl (Ad rfl (Ad rfl (Ad rfl (Bd (by kernel_rfl) (Ad rfl A6)))))))))) ?_)
 intro k4 fi
 refine Dh ?_
 obtain rfl := so H
 exact And.intro rfl ⟨hg, dr, c8, ds, (Hp.pick fi 20 [1, 4, 5, 6, 7, 8, 9, 10, 11, 12, 13, 14, 2, 18, 19, 3, 15, 16, 17] rfl), (fl rfl)⟩}
 {
 rcases dn with ⟨c6, dp⟩ | ma
 {
 intro x k5 k6 hJ
 obtain ⟨rfl, ay, c7, hh, du, cr, fj⟩ := hJ
 refine Be (F := [(0, (.ptr b 0)), (1, (.ptr d 0)), (4, (.ptr a 0)), (5, (.ptr g 0)), (6, (.ptr a7 0))]) fj (Aa (V rfl ?_))
 obtain ⟨hi, cs, H⟩ := bind_some H
 rcases hi with mb | mc
 {
 refine Ai (Gk du (Hp.pick cr 16 [15, 0, 1, 2, 3, 4, 5, 6, 7, 8, 9, 10, 11, 12, 13, 14] rfl) cs) rfl rfl rfl rfl ?_
 rintro _ k7 ⟨rfl, fk⟩
 refine Ab ?_
 exact Be (fl rfl) (ih ((c6, h6), (ay, c4)) _ ⟨hh, h7, (Hp.pick fk 1 [] rfl)⟩ H)}
 {
 refine Aj (Gk du (Hp.pick cr 16 [15, 0, 1, 2, 3, 4, 5, 6, 7, 8, 9, 10, 11, 12, 13, 14] rfl) cs) rfl rfl ?_
 intro k8 fm
 obtain rfl := so H
 exact Fin.pan (C := cfg) (fn := Tryz.f77) ⟨rfl, (Hp.pick fm 18 [] rfl)⟩}}
 {
 intro x k9 ka hJ
 obtain rfl := so H
 cases x <;> first | exact hJ | exact hJ.elim}}}
 {
 intro x kb kc hJ
 obtain rfl := so H
 cases x <;> first | exact hJ | exact hJ.elim}}}
 {
 refine Aj (Bo df cm cn) rfl rfl ?_
 intro kd fo
 obtain rfl := so H
 exact Fin.pan (C := cfg) (fn := Tryz.f77) ⟨rfl, (Hp.pick fo 18 [] rfl)⟩}}
 {
 refine Aj (Bj c3 b8 cl) rfl rfl ?_
 intro ke fp
 obtain rfl := so H
 exact Fin.pan (C := cfg) (fn := Tryz.f77) ⟨rfl, (Hp.pick fp 17 [] rfl)⟩}}
 {
 have H := Av b9 H
 refine D9 ?_
 obtain rfl := so H
 exact And.intro rfl ⟨c2, ap, (Hp.pick b8 1 [] rfl), (fl rfl)⟩}}
 {
 rcases dd with am | kf
 {
 intro x kg kh hJ
 obtain ⟨rfl, e, b0, ct, fq⟩ := hJ
 refine Be (F := [(0, (.ptr b 0)), (1, (.ptr d 0)), (4, (.ptr a 0))]) fq (Ac (Ac (Aa (V rfl ?_))))
 obtain ⟨fr, bt, H⟩ := bind_some H
 rcases fr with fs | ki
 {
 refine Ai (Bj dc (Hp.pick ct 14 [13, 0, 1, 2, 3, 4, 5, 6, 7, 8, 9, 10, 11, 12] rfl) bt) rfl rfl rfl rfl ?_
 obtain ⟨md, me⟩ := fs
 rintro _ kj ⟨mf, dv, rfl, dw, dx, cu⟩
 obtain ⟨ft, bu, H⟩ := bind_some H
 rcases ft with hj | kk
 {
 refine Ai (Bo dw cu bu) rfl rfl rfl rfl ?_
 rintro _ kl ⟨aq, hk, rfl, hl, fu⟩
 refine V rfl (Ab (Bb ?_))
 obtain ⟨dy, fv, H⟩ := bind_some H
 refine A4 (J := _) (D8 (fl rfl) (Cw (f := (fun m (i : ((List B5) × (List Ae)) × (A × A)) => E6 n a5 a0 a1 ax am m i.1.1 i.1.2)) (G := (fun (i : ((List B5) × (List Ae)) × (A × A)) => ([(0, (.ptr b 0)), (1, (.ptr d 0)), (4, (.ptr a 0)), (8, (.ptr aq 0))] : List (Nat × A)))) (I := (fun (i : ((List B5) × (List Ae)) × (A × A)) (s : St) => Sl Hm i.2.1 i.1.1 ∧ Sl A0 i.2.2 i.1.2 ∧ Hp s (C0 b [(vS a5.f_Desc.f_Name), (vI a5.f_Desc.f_Order), h, j, k, l, a2, o, p, q, u, w, y, (.ptr a 0)] (.blk a (.cells [(vS a0), (vS a1), e, i.2.1, a6] 50) :: .blk d (.cells [dv] 167) :: .blk aq (.cells [i.2.2] 167) :: .app e 130 :: .app i.2.1 132 :: .app a6 52 :: R)))) (J := (fun (v : LR (List B5) (PR (TRd × (List Ae)) Int)) (x : X) (φ : Fr) (s : St) => match v with | .out b1 => x = (.exit 2) ∧ (∃ (a3 : A), Sl Hm a3 b1 ∧ Hp s (C0 b [(vS a5.f_Desc.f_Name), (vI a5.f_Desc.f_Order), h, j, k, l, a2, o, p, q, u, w, y, (.ptr a 0)] (.blk a (.cells [(vS a0), (vS a1), e, a3, a6] 50) :: .blk d (.cells [dv] 167) :: .app e 130 :: .app a3 132 :: .app a6 52 :: R)) ∧ Fl [(0, (.ptr b 0)), (1, (.ptr d 0)), (4, (.ptr a 0))] φ) | .ret r => FinR cfg Tryz.f77 (Em b d R r) x φ s)) (fun _ => rfl) ?_ n ((bm, hj.f_rest), (a9, hk)) _ dy ⟨da, hl, (Hp.pick fu 15 [2, 3, 4, 5, 6, 7, 8, 9, 10, 11, 12, 13, 14, 1, 0] rfl)⟩ fv)) ?_
 {
 rintro m ⟨⟨hm, hn⟩, ⟨ho, mg⟩⟩ br v ⟨b2, c9, bs⟩ H ih
 change E6 n a5 a0 a1 ax am (m + 1) hm hn = some v at H
 rw [E6] at H
 change Ec _ _ _ [(0, (.ptr b 0)), (1, (.ptr d 0)), (4, (.ptr a 0)), (8, (.ptr aq 0))] br _
 refine Ac (Ac (Aa (V rfl ?_)))
 obtain ⟨hq, dz, H⟩ := bind_some H
 refine A2 rfl rfl rfl rfl (Hl c9 (Hp.pick bs 15 [14, 0, 1, 2, 3, 4, 5, 6, 7, 8, 9, 10, 11, 12, 13] rfl) dz) ?_
 rintro _ km ⟨rfl, bd⟩
 refine Ab ?_
 refine An (t := hq) rfl (fun be => ?_) (fun be => ?_)
 {
 have H := Au be H
 refine A7 (Bb (Ac (Aa (V rfl (V rfl ?_)))))
 obtain ⟨hr, cv, H⟩ := bind_some H
 rcases hr with hs | mh
 {
 refine Ai (A1 c9 bd cv) rfl rfl rfl rfl ?_
 obtain ⟨mi, ht⟩ := hs
 rintro _ kn ⟨hu, rfl, hv, cw⟩
 obtain ⟨hw, cx, H⟩ := bind_some H
 rcases hw with a4 | mj
 {
 refine Ai (gr_piece_ok b0 b2 bo ⟨h, j, k, l, a2, o, p, q, u, w, y, rfl, ab, ac, ad, ae, af, ag, ah, ai, aj, ak, al⟩ (Hp.pick cw 18 [1, 2, 3, 4, 5, 6, 7, 8, 9, 10, 11, 12, 13, 15, 16, 17, 0, 14] rfl) cx) rfl rfl rfl rfl ?_
 rintro _ ko ⟨rfl, fw⟩
 refine Cs (z := [(vS (ByteArray.mk #[])), (vI 0), (vI 0), (vI 0)]) fw rfl rfl rfl rfl rfl ?_
 intro mk kp fx
 refine Al fx 0 rfl (Af rfl rfl rfl rfl rfl rfl) rfl rfl rfl rfl rfl ?_
 intro kq bf
 refine Ab (Ac (Aa (V rfl (W (Ag bf 2 rfl rfl rfl rfl) rfl (W (Cj b2 rfl rfl rfl rfl rfl Tryz.underlying47) rfl ?_)))))
 refine V rfl ?_
 obtain ⟨hx, cy, H⟩ := bind_some H
 rcases hx with ml | mm
 {
 refine Ai (Ah bf cy) rfl rfl rfl rfl ?_
 rintro _ kr ⟨rfl, bg⟩
 refine Ab (Aa (V rfl (W (Ag bg 2 rfl rfl rfl rfl) rfl (W (Ag bg 0 rfl rfl rfl rfl) rfl ?_))))
 refine W (Cy (Am rfl rfl rfl rfl rfl Bc) rfl (Ak rfl rfl rfl) Tryz.underlying47 rfl rfl rfl rfl (by decide) rfl) rfl ?_
 have hy : Sl Hm (.sl 4 [(vS a4.f_Lit), (vI a4.f_Arg), (vI a4.f_Hi), (vI a4.f_Lo)] .ex) ([a4] : List B5) := .inr ⟨_, _, rfl, (.cons (c := [(vS a4.f_Lit), (vI a4.f_Arg), (vI a4.f_Hi), (vI a4.f_Lo)]) rfl .nil)⟩
 have fy := Dv bg 132 4 [(vS a4.f_Lit), (vI a4.f_Arg), (vI a4.f_Hi), (vI a4.f_Lo)]
 obtain ⟨hz, e0, H⟩ := bind_some H
 refine Hy fy 16 rfl b2 (New.of hy) e0 rfl rfl rfl rfl rfl rfl rfl Tryz.underlying47 rfl Tryz.underlying47 rfl rfl rfl rfl rfl rfl rfl rfl ?_
 intro i0 ks ca fz
 refine V rfl (Al fz 3 rfl (Af (ca.cells) rfl rfl (by exact on ca.isOne on0) rfl rfl) rfl rfl rfl rfl rfl ?_)
 intro kt g0
 refine Ab ?_
 exact Be (fl rfl) (ih ((hz, ht), (i0, hu)) _ ⟨ca, hv, (Hp.pick g0 20 [2, 4, 5, 6, 7, 8, 9, 10, 11, 12, 13, 14, 3, 19, 18, 15, 16, 17] rfl)⟩ H)}
 {
 refine Aj (Ah bf cy) rfl rfl ?_
 intro ku g1
 obtain rfl := so H
 exact Fin.pan (C := cfg) (fn := Tryz.f77) ⟨rfl, (Hp.pick g1 19 [] rfl)⟩}}
 {
 refine Aj (gr_piece_ok b0 b2 bo ⟨h, j, k, l, a2, o, p, q, u, w, y, rfl, ab, ac, ad, ae, af, ag, ah, ai, aj, ak, al⟩ (Hp.pick cw 18 [1, 2, 3, 4, 5, 6, 7, 8, 9, 10, 11, 12, 13, 15, 16, 17, 0, 14] rfl) cx) rfl rfl ?_
 intro kv g2
 obtain rfl := so H
 exact Fin.pan (C := cfg) (fn := Tryz.f77) ⟨rfl, (Hp.pick g2 2 [] rfl)⟩}}
 {
 refine Aj (A1 c9 bd cv) rfl rfl ?_
 intro kw g3
 obtain rfl := so H
 exact Fin.pan (C := cfg) (fn := Tryz.f77) ⟨rfl, (Hp.pick g3 17 [] rfl)⟩}}
 {
 have H := Av be H
 refine D9 ?_
 obtain rfl := so H
 exact And.intro rfl ⟨ho, b2, (Hp.pick bd 1 [] rfl), (fl rfl)⟩}}
 {
 rcases dy with b1 | kx
 {
 intro x ky kz hJ
 obtain ⟨rfl, a3, cb, cz, g4⟩ := hJ
 refine Be (F := [(0, (.ptr b 0)), (1, (.ptr d 0)), (4, (.ptr a 0))]) g4 (Ac (Ac (Aa (V rfl ?_))))
 obtain ⟨g5, bv, H⟩ := bind_some H
 rcases g5 with g6 | l0
 {
 refine Ai (Bj dx (Hp.pick cz 14 [13, 0, 1, 2, 3, 4, 5, 6, 7, 8, 9, 10, 11, 12] rfl) bv) rfl rfl rfl rfl ?_
 obtain ⟨mn, mo⟩ := g6
 rintro _ l1 ⟨mp, b3, rfl, e1, i1, d0⟩
 obtain ⟨g7, bw, H⟩ := bind_some H
 rcases g7 with i2 | l2
 {
 refine Ai (Bo e1 d0 bw) rfl rfl rfl rfl ?_
 rintro _ l3 ⟨a8, i3, rfl, i4, g8⟩
 refine V rfl (Ab (Bb ?_))
 obtain ⟨d1, e2, H⟩ := bind_some H
 refine A4 (J := _) (D8 (fl rfl) (Cw (f := (fun m (i : ((List Ao) × (List Ae)) × (A × A)) => E7 n a5 a0 a1 am b1 m i.1.1 i.1.2)) (G := (fun (i : ((List Ao) × (List Ae)) × (A × A)) => ([(0, (.ptr b 0)), (4, (.ptr a 0)), (10, (.ptr a8 0))] : List (Nat × A)))) (I := (fun (i : ((List Ao) × (List Ae)) × (A × A)) (s : St) => Sl Cm i.2.1 i.1.1 ∧ Sl A0 i.2.2 i.1.2 ∧ Hp s (C0 b [(vS a5.f_Desc.f_Name), (vI a5.f_Desc.f_Order), h, j, k, l, a2, o, p, q, u, w, y, (.ptr a 0)] (.blk a (.cells [(vS a0), (vS a1), e, a3, i.2.1] 50) :: .blk a8 (.cells [i.2.2] 167) :: .blk d (.cells [b3] 167) :: .app e 130 :: .app a3 132 :: .app i.2.1 52 :: R)))) (J := (fun (v : LR (List Ao) (PR (TRd × (List Ae)) Int)) (x : X) (φ : Fr) (s : St) => match v with | .out cc => x = (.exit 4) ∧ (∃ (aa : A), Sl Cm aa cc ∧ Hp s (C0 b [(vS a5.f_Desc.f_Name), (vI a5.f_Desc.f_Order), h, j, k, l, a2, o, p, q, u, w, y, (.ptr a 0)] (.blk a (.cells [(vS a0), (vS a1), e, a3, aa] 50) :: .blk d (.cells [b3] 167) :: .app e 130 :: .app a3 132 :: .app aa 52 :: R)) ∧ Fl [(0, (.ptr b 0)), (4, (.ptr a 0))] φ) | .ret r => FinR cfg Tryz.f77 (Em b d R r) x φ s)) (fun _ => rfl) ?_ n ((ax, i2.f_rest), (a6, i3)) _ d1 ⟨bo, i4, (Hp.pick g8 15 [2, 3, 4, 5, 6, 7, 8, 9, 10, 11, 12, 13, 14, 0, 1] rfl)⟩ e2)) ?_
 {
 rintro m ⟨⟨i5, i6⟩, ⟨i7, mq⟩⟩ br v ⟨ar, cd, bs⟩ H ih
 change E7 n a5 a0 a1 am b1 (m + 1) i5 i6 = some v at H
 rw [E7] at H
 change Ec _ _ _ [(0, (.ptr b 0)), (4, (.ptr a 0)), (10, (.ptr a8 0))] br _
 refine Ac (Ac (Aa (V rfl ?_)))
 obtain ⟨i8, e3, H⟩ := bind_some H
 refine A2 rfl rfl rfl rfl (Hl cd (Hp.pick bs 14 [13, 0, 1, 2, 3, 4, 5, 6, 7, 8, 9, 10, 11, 12] rfl) e3) ?_
 rintro _ l4 ⟨rfl, bh⟩
 refine Ab ?_
 refine An (t := i8) rfl (fun bi => ?_) (fun bi => ?_)
 {
 have H := Au bi H
 refine A7 (Bb (Ac (Aa (V rfl (V rfl ?_)))))
 obtain ⟨g9, bx, H⟩ := bind_some H
 rcases g9 with ga | l5
 {
 refine Ai (Bj cd bh bx) rfl rfl rfl rfl ?_
 obtain ⟨mr, i9⟩ := ga
 rintro _ l6 ⟨ms, e4, rfl, e5, ia, d2⟩
 obtain ⟨gb, bz, H⟩ := bind_some H
 rcases gb with mt | l7
 {
 refine Ai (gr_effect_ok b0 cb ar ⟨h, j, k, l, a2, o, p, q, u, w, y, rfl, ab, ac, ad, ae, af, ag, ah, ai, aj, ak, al⟩ e5 (Hp.pick d2 18 [1, 2, 3, 4, 5, 6, 7, 8, 9, 10, 11, 12, 13, 15, 16, 17, 0, 14] rfl) bz) rfl rfl rfl rfl ?_
 rintro _ l8 ⟨ib, rfl, e6, gc⟩
 refine Cs (z := [(vI 0), (vI 0), (vI 0), (vI 0), A5]) gc rfl rfl rfl rfl rfl ?_
 intro mu ik e7
 refine Al e7 0 rfl (Af rfl rfl rfl (by exact on rfl (on rfl (on rfl (on rfl (on e6.isOne on0))))) rfl rfl) rfl rfl rfl rfl rfl ?_
 intro il b4
 refine Ab (Ac (Aa (V rfl (W (Ag b4 2 rfl rfl rfl rfl) rfl (W (Cj ar rfl rfl rfl rfl rfl Tryz.underlying48) rfl ?_)))))
 refine V rfl ?_
 obtain ⟨gd, c0, H⟩ := bind_some H
 rcases gd with l9 | la
 {
 refine Ai (Ah b4 c0) rfl rfl rfl rfl ?_
 rintro _ im ⟨rfl, b5⟩
 refine Ab ?_
 obtain ⟨aw, e8, H⟩ := bind_some H
 refine A4 (J := (fun (aw : (List Ao)) (x : X) (φ : Fr) (s : St) => x = .normal ∧ (∃ (ao : A), Sl Cm ao aw ∧ Hp s (C0 b [(vS a5.f_Desc.f_Name), (vI a5.f_Desc.f_Order), h, j, k, l, a2, o, p, q, u, w, y, (.ptr a 0)] (.blk a (.cells [(vS a0), (vS a1), e, a3, ao] 50) :: .blk a8 (.cells [e4] 167) :: .blk d (.cells [b3] 167) :: .app e 130 :: .app a3 132 :: .app ao 52 :: R)) ∧ Fl [(0, (.ptr b 0)), (4, (.ptr a 0)), (10, (.ptr a8 0))] φ)) aw) ?_ ?_
 {
 have H := e8
 refine Ec.late rfl (by kernel_rfl) (Az rfl rfl rfl rfl rfl rfl (Az (Ag b5 2 rfl rfl rfl rfl) rfl rfl rfl rfl rfl (Az (Ag b5 0 rfl rfl rfl rfl) rfl rfl rfl rfl rfl (Ed.lenL ar rfl rfl rfl rfl rfl Tryz.underlying48 rfl rfl rfl A8 ?_))))
 refine Az (Cy (Am rfl rfl rfl rfl rfl Bc) rfl (Ak rfl rfl rfl) Tryz.underlying48 rfl rfl rfl rfl (by decide) rfl) rfl rfl rfl rfl rfl ?_
 have lb : Sl Cm (.sl 5 [(vI 0), (vI 0), (vI 0), (vI 0), A5] .ex) ([(Ao.mk 0 0 0 0 ([] : List Ao))] : List Ao) := .inr ⟨_, _, rfl, (.cons (c := [(vI 0), (vI 0), (vI 0), (vI 0), A5]) (rTTerm_of ⟨A5, rfl, Sl.nil⟩) .nil)⟩
 have e9 := Dv b5 52 5 [(vI 0), (vI 0), (vI 0), (vI 0), A5]
 obtain ⟨lc, d3, H⟩ := bind_some H
 refine Dh (late_fin e9 18 rfl 3 rfl ar (rTTerm_of ⟨ib, rfl, e6⟩) rfl d3 rfl rfl rfl rfl rfl rfl rfl Tryz.underlying48 Tryz.underlying48 Tryz.underlying48 rfl rfl rfl rfl rfl rfl rfl rfl rfl rfl rfl rfl rfl rfl rfl ?_)
 intro ge io gf ea
 obtain rfl := so H
 exact And.intro rfl ⟨ge, gf, (Hp.pick ea 21 [2, 5, 6, 7, 8, 9, 10, 11, 12, 13, 14, 15, 3, 19, 20, 16, 17, 18] rfl), (fl rfl)⟩}
 {
 intro x ip iq hJ
 obtain ⟨rfl, ao, gg, eb, ec⟩ := hJ
 exact Be (Fl.trans (G := [(0, (.ptr b 0)), (4, (.ptr a 0)), (10, (.ptr a8 0))]) (fl rfl) ec) (ih ((aw, i9), (ao, e4)) _ ⟨gg, ia, eb⟩ H)}}
 {
 refine Aj (Ah b4 c0) rfl rfl ?_
 intro ir ed
 obtain rfl := so H
 exact Fin.pan (C := cfg) (fn := Tryz.f77) ⟨rfl, (Hp.pick ed 20 [] rfl)⟩}}
 {
 refine Aj (gr_effect_ok b0 cb ar ⟨h, j, k, l, a2, o, p, q, u, w, y, rfl, ab, ac, ad, ae, af, ag, ah, ai, aj, ak, al⟩ e5 (Hp.pick d2 18 [1, 2, 3, 4, 5, 6, 7, 8, 9, 10, 11, 12, 13, 15, 16, 17, 0, 14] rfl) bz) rfl rfl ?_
 intro it ee
 obtain rfl := so H
 exact Fin.pan (C := cfg) (fn := Tryz.f77) ⟨rfl, (Hp.pick ee 2 [] rfl)⟩}}
 {
 refine Aj (Bj cd bh bx) rfl rfl ?_
 intro iu ef
 obtain rfl := so H
 exact Fin.pan (C := cfg) (fn := Tryz.f77) ⟨rfl, (Hp.pick ef 17 [] rfl)⟩}}
 {
 have H := Av bi H
 refine D9 ?_
 obtain rfl := so H
 exact And.intro rfl ⟨i7, ar, (Hp.pick bh 1 [] rfl), (fl rfl)⟩}}
 {
 rcases d1 with cc | ld
 {
 intro x iv iw hJ
 obtain ⟨rfl, aa, ic, b6, eg⟩ := hJ
 refine Be (F := [(0, (.ptr b 0)), (4, (.ptr a 0))]) eg ?_
 obtain ⟨bj, eh, H⟩ := bind_some H
 refine A4 (J := (fun (bj : TRd) (x : X) (φ : Fr) (s : St) => x = .normal ∧ (∃ (bk : (List A)), E2 (.ptr a 0) bj bk ∧ Hp s (C0 b bk (.blk d (.cells [b3] 167) :: R)) ∧ Fl [] φ)) bj) ?_ ?_
 {
 have H := eh
 refine Fv (by kernel_rfl) ?_
 iterate 5 refine V rfl ?_
 refine W (Ag b6 0 rfl rfl rfl rfl) rfl (W (Ag b6 12 rfl rfl rfl rfl) rfl ?_)
 refine W (Cy (Am rfl rfl rfl rfl rfl Bc) rfl (Ak rfl rfl rfl) Tryz.underlying31 rfl rfl rfl rfl (by decide) rfl) rfl ?_
 have gh : Sl rTForm (.sl 5 [(vS a0), (vS a1), e, a3, aa] .ex) ([(F0.mk a0 a1 am b1 cc)] : List F0) := .inr ⟨_, _, rfl, (.cons (c := [(vS a0), (vS a1), e, a3, aa]) ⟨e, a3, aa, rfl, b0, cb, ic⟩ .nil)⟩
 have ei := Dv b6 50 5 [(vS a0), (vS a1), e, a3, aa]
 obtain ⟨le, d4, H⟩ := bind_some H
 refine Hy ei 6 rfl af (New.of gh) d4 rfl rfl rfl rfl rfl rfl rfl Tryz.underlying31 rfl Tryz.underlying31 rfl rfl rfl rfl rfl rfl rfl rfl ?_
 intro gi ix bl ej
 iterate 3 refine V rfl ?_
 refine Al ej 1 rfl (Af (bl.cells) rfl rfl (by exact on bl.isOne on0) rfl rfl) rfl rfl rfl rfl rfl ?_
 intro iy ek
 refine Ab ?_
 obtain rfl := so H
 exact And.intro rfl (And.intro rfl ⟨_, ⟨h, j, k, l, gi, o, p, q, u, w, y, rfl, ab, ac, ad, ae, bl, ag, ah, ai, aj, ak, al⟩, (Hp.pick ek 18 [1, 2, 3, 4, 5, 6, 7, 8, 9, 10, 11, 12, 14] rfl), (.nil')⟩)}
 {
 intro x iz j0 hJ
 obtain ⟨rfl, bk, gj, el, em⟩ := hJ
 obtain rfl := so H
 refine Fin.mkNφ (C := cfg) (fn := Tryz.f77) em rfl ?_
 exact ⟨(.ptr a 0), _, b3, rfl, rfl, gj, i1, (Hp.pick el 13 [0, 12, 1, 2, 3, 4, 5, 6, 7, 8, 9, 10, 11] rfl)⟩}}
 {
 intro x j1 j2 hJ
 obtain rfl := so H
 cases x <;> first | exact hJ | exact hJ.elim}}}
 {
 refine Aj (Bo e1 d0 bw) rfl rfl ?_
 intro j3 en
 obtain rfl := so H
 exact Fin.pan (C := cfg) (fn := Tryz.f77) ⟨rfl, (Hp.pick en 17 [] rfl)⟩}}
 {
 refine Aj (Bj dx (Hp.pick cz 14 [13, 0, 1, 2, 3, 4, 5, 6, 7, 8, 9, 10, 11, 12] rfl) bv) rfl rfl ?_
 intro j4 eo
 obtain rfl := so H
 exact Fin.pan (C := cfg) (fn := Tryz.f77) ⟨rfl, (Hp.pick eo 16 [] rfl)⟩}}
 {
 intro x j5 j6 hJ
 obtain rfl := so H
 cases x <;> first | exact hJ | exact hJ.elim}}}
 {
 refine Aj (Bo dw cu bu) rfl rfl ?_
 intro j7 ep
 obtain rfl := so H
 exact Fin.pan (C := cfg) (fn := Tryz.f77) ⟨rfl, (Hp.pick ep 17 [] rfl)⟩}}
 {
 refine Aj (Bj dc (Hp.pick ct 14 [13, 0, 1, 2, 3, 4, 5, 6, 7, 8, 9, 10, 11, 12] rfl) bt) rfl rfl ?_
 intro j8 eq
 obtain rfl := so H
 exact Fin.pan (C := cfg) (fn := Tryz.f77) ⟨rfl, (Hp.pick eq 16 [] rfl)⟩}}
 {
 intro x j9 ja hJ
 obtain rfl := so H
 cases x <;> first | exact hJ | exact hJ.elim}}}
 {
 refine Aj (Bo db ck bq) rfl rfl ?_
 intro jb er
 obtain rfl := so H
 exact Fin.pan (C := cfg) (fn := Tryz.f77) ⟨rfl, (Hp.pick er 17 [] rfl)⟩}}
 {
 refine Aj (Bj gm (Hp.pick cj 13 [12, 0, 1, 2, 3, 4, 5, 6, 7, 8, 9, 10, 11] rfl) bp) rfl rfl ?_
 intro jc es
 obtain rfl := so H
 exact Fin.pan (C := cfg) (fn := Tryz.f77) ⟨rfl, (Hp.pick es 16 [] rfl)⟩}}
 {
 intro x jd je hJ
 obtain rfl := so H
 cases x <;> first | exact hJ | exact hJ.elim}}

theorem G1 {n : Nat} {a : Nat} {b : Nat} {a1 : TRd} {e : (List Ae)} {a2 : A} {f : (List A)} {a3 : A} {R : List Res} {σ : St} (b9 : isOne a2 = true) (ac : E2 a2 a1 f) (a4 : Sl A0 a3 e) (hp : Hp σ (C0 a f (.blk b (.cells [a3] 167) :: R))) {r : (PR (Int × (List Ae)) Int)} (H : Jn n a1 e = some r) : CaO cfg 81 [(.ptr a 0), (.ptr b 0)] σ (gr_rel_f81_post a b f R r) := by
 unfold Jn at H
 refine CaO.enterL (G := [(0, (.ptr a 0)), (1, (.ptr b 0))]) Tryz.func81 rfl rfl rfl rfl (Ac (Aa (V rfl (Ab (Ac ?_)))))
 obtain ⟨g, k, H⟩ := bind_some H
 refine A4 (J := (fun (v : LR (Int × (List Ae)) (PR (Int × (List Ae)) Int)) (x : X) (φ : Fr) (s : St) => match v with | .out (h, m) => x = .normal ∧ (∃ (d : A), Sl A0 d m ∧ Hp s (C0 a f (.blk b (.cells [d] 167) :: R)) ∧ Fl [(4, (vI h))] φ) | .ret r => FinR cfg Tryz.f81 (gr_rel_f81_post a b f R r) x φ s) g) ?_ ?_
 {
 have H := k
 refine C5 (by kernel_rfl) ?_
 iterate 4 refine Az rfl rfl rfl rfl rfl rfl ?_
 obtain ⟨aj, ak, al, am, an, ao, ap, aq, ar, au, av, rfl, aw, ax, ay, az, b0, o, b1, b2, b3, b4, b5⟩ := ac
 refine Az (Ag hp 0 rfl rfl rfl rfl) rfl rfl rfl rfl rfl (Az rfl rfl rfl rfl rfl rfl ?_)
 obtain ⟨a5, i, H⟩ := bind_some H
 rcases a5 with p | b6
 rotate_left
 {
 refine Bn (A1 a4 (Hp.pick hp 13 [12, 0, 1, 2, 3, 4, 5, 6, 7, 8, 9, 10, 11] rfl) i) rfl rfl rfl rfl rfl (by kernel_rfl) ?_
 intro ad u
 obtain rfl := so H
 exact Bm (C := cfg) (fn := Tryz.f81) ⟨rfl, (Hp.pick u 12 [] rfl)⟩}
 refine Bk (CaO.val (A1 a4 (Hp.pick hp 13 [12, 0, 1, 2, 3, 4, 5, 6, 7, 8, 9, 10, 11] rfl) i)) rfl rfl rfl rfl rfl (by obtain ⟨a6, a7⟩ := p; rintro _ w ⟨q, rfl, t, c⟩; exact (Ad rfl (B7 rfl (Ag c 1 rfl rfl rfl rfl) (Ad rfl (Ad rfl (Ad rfl (Ad rfl A6))))))) ?_
 obtain ⟨a6, a7⟩ := p
 rintro _ w ⟨q, rfl, t, c⟩
 obtain ⟨a8, j, H⟩ := bind_some H
 rcases a8 with b7 | b8
 rotate_left
 {
 refine Bn (Kt o c j) rfl rfl rfl rfl rfl (by kernel_rfl) ?_
 intro ae y
 obtain rfl := so H
 exact Bm (C := cfg) (fn := Tryz.f81) ⟨rfl, (Hp.pick y 13 [] rfl)⟩}
 refine Bk (CaO.val (Kt o c j)) rfl rfl rfl rfl rfl (fun _ _ _ => (Ad rfl (Bd (by kernel_rfl) (Ad rfl (Ad rfl (Ad rfl (Ad rfl A6))))))) ?_
 rintro _ af ⟨rfl, z⟩
 refine A9 rfl rfl rfl rfl rfl (Ar rfl (Ar rfl A8)) (Dh ?_)
 obtain rfl := so H
 exact And.intro rfl ⟨q, t, (Hp.pick z 13 [1, 2, 3, 4, 5, 6, 7, 8, 9, 10, 11, 12, 0] rfl), (fl rfl)⟩}
 {
 rcases g with ⟨h, m⟩ | ag
 {
 intro x ah ai hJ
 obtain ⟨rfl, d, a9, a0, l⟩ := hJ
 refine Be (F := [(4, (vI h))]) l ?_
 obtain rfl := so H
 refine Aw (Fin.mk rfl ?_)
 exact ⟨d, rfl, a9, (Hp.pick a0 13 [0, 12, 1, 2, 3, 4, 5, 6, 7, 8, 9, 10, 11] rfl)⟩}
 {
 intro x aa ab hJ
 obtain rfl := so H
 cases x <;> first | exact hJ | exact hJ.elim}}

theorem gr_readMacro_f78_ok {n : Nat} {a : Nat} {b : Nat} {a8 : TRd} {au : (List Ae)} {a2 : A} {d0 : (List A)} {d1 : A} {R : List Res} {σ : St} (d2 : isOne a2 = true) (e3 : E2 a2 a8 d0) (d3 : Sl A0 d1 au) (hp : Hp σ (C0 a d0 (.blk b (.cells [d1] 167) :: R))) {r : (PR (TRd × (List Ae)) Int)} (H : Ih n a8 au = some r) : CaO cfg 78 [(.ptr a 0), (.ptr b 0)] σ (Je a b a2 R r) := by
 unfold Ih at H
 refine CaO.enterL (G := [(0, (.ptr a 0)), (1, (.ptr b 0))]) Tryz.func78 rfl rfl rfl rfl (Ac (Aa ?_))
 iterate 4 refine V rfl ?_
 obtain ⟨k, l, o, p, q, u, w, y, a9, a0, a1, rfl, av, aw, ax, ay, az, b0, b1, b2, aj, b3, b4⟩ := e3
 refine W (Ag hp 0 rfl rfl rfl rfl) rfl (W (Cj aj rfl rfl rfl rfl rfl Tryz.underlying35) rfl (V rfl ?_))
 obtain ⟨c4, ak, H⟩ := bind_some H
 rcases c4 with e4 | e5
 {
 refine Ai (Ah hp ak) rfl rfl rfl rfl ?_
 rintro _ e6 ⟨rfl, b5⟩
 refine Ab (Ac (Aa (V rfl ?_)))
 obtain ⟨c5, al, H⟩ := bind_some H
 rcases c5 with c6 | e7
 {
 refine Ai (gc_text_ok d3 (Hp.pick b5 13 [12, 0, 1, 2, 3, 4, 5, 6, 7, 8, 9, 10, 11] rfl) al) rfl rfl rfl rfl ?_
 obtain ⟨h, er⟩ := c6
 rintro _ e8 ⟨es, rfl, d4, c7⟩
 refine W (Bh (Am rfl rfl rfl rfl rfl (Am rfl rfl rfl rfl rfl Bc)) rfl (Ak rfl rfl (Ak rfl rfl rfl)) Tryz.underlying115 rfl rfl) rfl ?_
 refine Cs (z := [(vS (ByteArray.mk #[])), (vI 0), A5]) c7 rfl rfl rfl rfl rfl ?_
 intro e e9 c8
 refine Al c8 0 rfl (Af rfl rfl rfl rfl rfl rfl) rfl rfl rfl rfl rfl ?_
 intro ea c9
 refine Ab (Ac (Ac (Aa (V rfl ?_))))
 obtain ⟨ca, b6, H⟩ := bind_some H
 refine A2 rfl rfl rfl rfl (gc_is_ok d4 (Hp.pick c9 2 [1, 0] rfl) b6) ?_
 obtain ⟨d5, et⟩ := ca
 rintro _ eb ⟨d6, rfl, b7, aa⟩
 refine V rfl (Ab ?_)
 obtain ⟨b8, bh, H⟩ := bind_some H
 refine A4 (J := (fun (v : LR ((List Ae) × Int) (PR (TRd × (List Ae)) Int)) (x : X) (φ : Fr) (s : St) => match v with | .out (c1, g) => x = .normal ∧ (∃ (b9 : A), Sl A0 b9 c1 ∧ Hp s (C0 a [(vS a8.f_Desc.f_Name), (vI a8.f_Desc.f_Order), k, l, o, p, q, u, w, y, a9, a0, a1, a2] (.blk b (.cells [b9] 167) :: .blk e (.cells [(vS h), (vI g), A5] 115) :: R)) ∧ Fl [(0, (.ptr a 0)), (1, (.ptr b 0)), (4, (.ptr e 0))] φ) | .ret r => FinR cfg Tryz.f78 (Je a b a2 R r) x φ s) b8) ?_ ?_
 {
 have H := bh
 refine An (t := (!d5)) rfl (fun ab => ?_) (fun ab => ?_)
 {
 have H := Au ab H
 refine Aa (V rfl (V rfl ?_))
 obtain ⟨d7, ba, H⟩ := bind_some H
 rcases d7 with d8 | eu
 {
 refine Ai (G1 d2 ⟨k, l, o, p, q, u, w, y, a9, a0, a1, rfl, av, aw, ax, ay, az, b0, b1, b2, aj, b3, b4⟩ b7 (Hp.pick aa 14 [2, 3, 4, 5, 6, 7, 8, 9, 10, 11, 12, 13, 0, 1] rfl) ba) rfl rfl rfl rfl ?_
 obtain ⟨ev, ew⟩ := d8
 rintro _ ec ⟨d9, rfl, da, cb⟩
 refine V rfl (Al cb 13 rfl (Af rfl rfl rfl rfl rfl rfl) rfl rfl rfl rfl rfl ?_)
 intro ed cc
 refine Ab ?_
 obtain rfl := so H
 exact And.intro rfl ⟨d9, da, (Hp.pick cc 13 [0, 2, 3, 4, 5, 6, 7, 8, 9, 10, 11, 12, 1] rfl), (fl rfl)⟩}
 {
 refine Aj (G1 d2 ⟨k, l, o, p, q, u, w, y, a9, a0, a1, rfl, av, aw, ax, ay, az, b0, b1, b2, aj, b3, b4⟩ b7 (Hp.pick aa 14 [2, 3, 4, 5, 6, 7, 8, 9, 10, 11, 12, 13, 0, 1] rfl) ba) rfl rfl ?_
 intro ee cd
 obtain rfl := so H
 exact Fin.pan (C := cfg) (fn := Tryz.f78) ⟨rfl, (Hp.pick cd 1 [] rfl)⟩}}
 {
 have H := Av ab H
 refine A7 ?_
 obtain rfl := so H
 exact And.intro rfl ⟨d6, b7, (Hp.pick aa 14 [2, 3, 4, 5, 6, 7, 8, 9, 10, 11, 12, 13, 0, 1] rfl), (fl rfl)⟩}}
 {
 rcases b8 with ⟨c1, g⟩ | ef
 {
 intro x eg eh hJ
 obtain ⟨rfl, b9, c2, bb, ce⟩ := hJ
 refine Be (F := [(0, (.ptr a 0)), (1, (.ptr b 0)), (4, (.ptr e 0))]) ce (Ac (Ac (Aa (V rfl ?_))))
 obtain ⟨cf, am, H⟩ := bind_some H
 rcases cf with cg | ei
 {
 refine Ai (Bj c2 (Hp.pick bb 13 [12, 0, 1, 2, 3, 4, 5, 6, 7, 8, 9, 10, 11] rfl) am) rfl rfl rfl rfl ?_
 obtain ⟨ex, ey⟩ := cg
 rintro _ ej ⟨ez, an, rfl, c3, db, bc⟩
 obtain ⟨ch, ao, H⟩ := bind_some H
 rcases ch with dc | ek
 {
 refine Ai (Bo c3 bc ao) rfl rfl rfl rfl ?_
 rintro _ dg ⟨j, dd, rfl, ci, bi⟩
 refine V rfl (Ab (Bb ?_))
 obtain ⟨bd, bj, H⟩ := bind_some H
 refine A4 (J := _) (D8 (fl rfl) (Cw (f := (fun m (i : ((List ByteArray) × (List Ae)) × (A × A)) => Et n m i.1.1 i.1.2)) (G := (fun (i : ((List ByteArray) × (List Ae)) × (A × A)) => ([(0, (.ptr a 0)), (4, (.ptr e 0)), (5, (.ptr j 0))] : List (Nat × A)))) (I := (fun (i : ((List ByteArray) × (List Ae)) × (A × A)) (s : St) => Sl rS i.2.1 i.1.1 ∧ Sl A0 i.2.2 i.1.2 ∧ Hp s (C0 a [(vS a8.f_Desc.f_Name), (vI a8.f_Desc.f_Order), k, l, o, p, q, u, w, y, a9, a0, a1, a2] (.blk e (.cells [(vS h), (vI g), i.2.1] 115) :: .blk j (.cells [i.2.2] 167) :: .blk b (.cells [an] 167) :: .app i.2.1 9 :: R)))) (J := (fun (v : LR (List ByteArray) (PR (TRd × (List Ae)) Int)) (x : X) (φ : Fr) (s : St) => match v with | .out ac => x = (.exit 0) ∧ (∃ (d : A), Sl rS d ac ∧ Hp s (C0 a [(vS a8.f_Desc.f_Name), (vI a8.f_Desc.f_Order), k, l, o, p, q, u, w, y, a9, a0, a1, a2] (.blk e (.cells [(vS h), (vI g), d] 115) :: .blk b (.cells [an] 167) :: .app d 9 :: R)) ∧ Fl [(0, (.ptr a 0)), (4, (.ptr e 0))] φ) | .ret r => FinR cfg Tryz.f78 (Je a b a2 R r) x φ s)) (fun _ => rfl) ?_ n ((([] : List ByteArray), dc.f_rest), (A5, dd)) _ bd ⟨Sl.nil, ci, (Hp.pick (As bi 9) 16 [3, 4, 5, 6, 7, 8, 9, 10, 11, 12, 13, 14, 15, 1, 2, 0] rfl)⟩ bj)) ?_
 {
 rintro m ⟨⟨cj, ck⟩, ⟨cl, el⟩⟩ de v ⟨ad, ae, df⟩ H ih
 change Et n (m + 1) cj ck = some v at H
 rw [Et] at H
 change Ec _ _ _ [(0, (.ptr a 0)), (4, (.ptr e 0)), (5, (.ptr j 0))] de _
 refine Ac (Ac (Aa (V rfl ?_)))
 obtain ⟨cm, be, H⟩ := bind_some H
 refine A2 rfl rfl rfl rfl (Hl ae (Hp.pick df 14 [13, 0, 1, 2, 3, 4, 5, 6, 7, 8, 9, 10, 11, 12] rfl) be) ?_
 rintro _ dh ⟨rfl, a3⟩
 refine Ab ?_
 refine An (t := cm) rfl (fun a4 => ?_) (fun a4 => ?_)
 {
 have H := Au a4 H
 refine A7 (Bb (Ac (Aa (V rfl ?_))))
 obtain ⟨cn, ap, H⟩ := bind_some H
 rcases cn with co | em
 {
 refine Ai (gc_text_ok ae a3 ap) rfl rfl rfl rfl ?_
 obtain ⟨a5, cp⟩ := co
 rintro _ di ⟨cq, rfl, cr, a6⟩
 refine V rfl (Ab (Ac (Aa (V rfl (W (Ag a6 13 rfl rfl rfl rfl) rfl ?_)))))
 refine W (Cj ad rfl rfl rfl rfl rfl Tryz.underlying29) rfl (V rfl ?_)
 obtain ⟨cs, aq, H⟩ := bind_some H
 rcases cs with en | eo
 {
 refine Ai (Ah a6 aq) rfl rfl rfl rfl ?_
 rintro _ dj ⟨rfl, ar⟩
 refine Ab (Aa (V rfl (W (Ag ar 13 rfl rfl rfl rfl) rfl (V rfl ?_))))
 refine W (Cy (Am rfl rfl rfl rfl rfl Bc) rfl (Ak rfl rfl rfl) Tryz.underlying29 rfl rfl rfl rfl (by decide) rfl) rfl ?_
 have ct : Sl rS (.sl 1 [(vS a5)] .ex) ([a5] : List ByteArray) := .inr ⟨_, _, rfl, (.cons (c := [(vS a5)]) rfl .nil)⟩
 have bk := Dv ar 9 1 [(vS a5)]
 obtain ⟨cu, bf, H⟩ := bind_some H
 refine Hy bk 16 rfl ad (New.of ct) bf rfl rfl rfl rfl rfl rfl rfl Tryz.underlying29 rfl Tryz.underlying29 rfl rfl rfl rfl rfl rfl rfl rfl ?_
 intro cv dk af bl
 refine V rfl (Al bl 14 rfl (Af (af.cells) rfl rfl (by exact on af.isOne on0) rfl rfl) rfl rfl rfl rfl rfl ?_)
 intro dl bm
 refine Ab ?_
 exact Be (fl rfl) (ih ((cu, cp), (cv, cq)) _ ⟨af, cr, (Hp.pick bm 15 [2, 3, 4, 5, 6, 7, 8, 9, 10, 11, 12, 13, 14, 1] rfl)⟩ H)}
 {
 refine Aj (Ah a6 aq) rfl rfl ?_
 intro dm bn
 obtain rfl := so H
 exact Fin.pan (C := cfg) (fn := Tryz.f78) ⟨rfl, (Hp.pick bn 16 [] rfl)⟩}}
 {
 refine Aj (gc_text_ok ae a3 ap) rfl rfl ?_
 intro dn bo
 obtain rfl := so H
 exact Fin.pan (C := cfg) (fn := Tryz.f78) ⟨rfl, (Hp.pick bo 15 [] rfl)⟩}}
 {
 have H := Av a4 H
 refine D9 ?_
 obtain rfl := so H
 exact And.intro rfl ⟨cl, ad, (Hp.pick a3 1 [] rfl), (fl rfl)⟩}}
 {
 rcases bd with ac | ep
 {
 intro x dp dq hJ
 obtain ⟨rfl, d, cw, a7, bp⟩ := hJ
 refine Be (F := [(0, (.ptr a 0)), (4, (.ptr e 0))]) bp ?_
 obtain ⟨ag, bq, H⟩ := bind_some H
 refine A4 (J := (fun (ag : TRd) (x : X) (φ : Fr) (s : St) => x = .normal ∧ (∃ (ah : (List A)), E2 a2 ag ah ∧ Hp s (C0 a ah (.blk b (.cells [an] 167) :: R)) ∧ Fl [] φ)) ag) ?_ ?_
 {
 have H := bq
 refine Fv (by kernel_rfl) ?_
 iterate 5 refine V rfl ?_
 refine W (Ag a7 0 rfl rfl rfl rfl) rfl (W (Ag a7 12 rfl rfl rfl rfl) rfl ?_)
 refine W (Cy (Am rfl rfl rfl rfl rfl Bc) rfl (Ak rfl rfl rfl) Tryz.underlying35 rfl rfl rfl rfl (by decide) rfl) rfl ?_
 have cx : Sl rTMacro (.sl 3 [(vS h), (vI g), d] .ex) ([(TMacro.mk h g ac)] : List TMacro) := .inr ⟨_, _, rfl, (.cons (c := [(vS h), (vI g), d]) ⟨d, rfl, cw⟩ .nil)⟩
 have br := Dv a7 115 3 [(vS h), (vI g), d]
 obtain ⟨eq, bg, H⟩ := bind_some H
 refine Hy br 10 rfl aj (New.of cx) bg rfl rfl rfl rfl rfl rfl rfl Tryz.underlying35 rfl Tryz.underlying35 rfl rfl rfl rfl rfl rfl rfl rfl ?_
 intro cy dr ai bs
 iterate 3 refine V rfl ?_
 refine Al bs 1 rfl (Af (ai.cells) rfl rfl (by exact on ai.isOne on0) rfl rfl) rfl rfl rfl rfl rfl ?_
 intro ds bt
 refine Ab ?_
 obtain rfl := so H
 exact And.intro rfl (And.intro rfl ⟨_, ⟨k, l, o, p, q, u, w, y, cy, a0, a1, rfl, av, aw, ax, ay, az, b0, b1, b2, ai, b3, b4⟩, (Hp.pick bt 16 [1, 2, 3, 4, 5, 6, 7, 8, 9, 10, 11, 12, 14] rfl), (.nil')⟩)}
 {
 intro x dt du hJ
 obtain ⟨rfl, ah, cz, bu, bv⟩ := hJ
 obtain rfl := so H
 refine Fin.mkNφ (C := cfg) (fn := Tryz.f78) bv rfl ?_
 exact ⟨_, an, rfl, cz, db, (Hp.pick bu 13 [0, 12, 1, 2, 3, 4, 5, 6, 7, 8, 9, 10, 11] rfl)⟩}}
 {
 intro x dv dw hJ
 obtain rfl := so H
 cases x <;> first | exact hJ | exact hJ.elim}}}
 {
 refine Aj (Bo c3 bc ao) rfl rfl ?_
 intro dx bw
 obtain rfl := so H
 exact Fin.pan (C := cfg) (fn := Tryz.f78) ⟨rfl, (Hp.pick bw 14 [] rfl)⟩}}
 {
 refine Aj (Bj c2 (Hp.pick bb 13 [12, 0, 1, 2, 3, 4, 5, 6, 7, 8, 9, 10, 11] rfl) am) rfl rfl ?_
 intro dy bx
 obtain rfl := so H
 exact Fin.pan (C := cfg) (fn := Tryz.f78) ⟨rfl, (Hp.pick bx 13 [] rfl)⟩}}
 {
 intro x dz e0 hJ
 obtain rfl := so H
 cases x <;> first | exact hJ | exact hJ.elim}}}
 {
 refine Aj (gc_text_ok d3 (Hp.pick b5 13 [12, 0, 1, 2, 3, 4, 5, 6, 7, 8, 9, 10, 11] rfl) al) rfl rfl ?_
 intro e1 bz
 obtain rfl := so H
 exact Fin.pan (C := cfg) (fn := Tryz.f78) ⟨rfl, (Hp.pick bz 12 [] rfl)⟩}}
 {
 refine Aj (Ah hp ak) rfl rfl ?_
 intro e2 c0
 obtain rfl := so H
 exact Fin.pan (C := cfg) (fn := Tryz.f78) ⟨rfl, (Hp.pick c0 13 [] rfl)⟩}

theorem Fd {n : Nat} {a : Nat} {b : Nat} {a1 : TRd} {e : (List Ae)} {a2 : A} {f : (List A)} {a3 : A} {R : List Res} {σ : St} (b9 : isOne a2 = true) (ac : E2 a2 a1 f) (a4 : Sl A0 a3 e) (hp : Hp σ (C0 a f (.blk b (.cells [a3] 167) :: R))) {r : (PR (Int × (List Ae)) Int)} (H : G0 n a1 e = some r) : CaO cfg 122 [(.ptr a 0), (.ptr b 0)] σ (gr_class_f122_post a b f R r) := by
 unfold G0 at H
 refine CaO.enterL (G := [(0, (.ptr a 0)), (1, (.ptr b 0))]) Tryz.func122 rfl rfl rfl rfl (Ac (Aa (V rfl (Ab (Ac ?_)))))
 obtain ⟨g, k, H⟩ := bind_some H
 refine A4 (J := (fun (v : LR (Int × (List Ae)) (PR (Int × (List Ae)) Int)) (x : X) (φ : Fr) (s : St) => match v with | .out (h, m) => x = .normal ∧ (∃ (d : A), Sl A0 d m ∧ Hp s (C0 a f (.blk b (.cells [d] 167) :: R)) ∧ Fl [(4, (vI h))] φ) | .ret r => FinR cfg Tryz.f122 (gr_class_f122_post a b f R r) x φ s) g) ?_ ?_
 {
 have H := k
 refine C5 (by kernel_rfl) ?_
 iterate 4 refine Az rfl rfl rfl rfl rfl rfl ?_
 obtain ⟨aj, ak, al, am, an, ao, ap, aq, ar, au, av, rfl, aw, ax, ay, o, az, b0, b1, b2, b3, b4, b5⟩ := ac
 refine Az (Ag hp 0 rfl rfl rfl rfl) rfl rfl rfl rfl rfl (Az rfl rfl rfl rfl rfl rfl ?_)
 obtain ⟨a5, i, H⟩ := bind_some H
 rcases a5 with p | b6
 rotate_left
 {
 refine Bn (A1 a4 (Hp.pick hp 13 [12, 0, 1, 2, 3, 4, 5, 6, 7, 8, 9, 10, 11] rfl) i) rfl rfl rfl rfl rfl (by kernel_rfl) ?_
 intro ad u
 obtain rfl := so H
 exact Bm (C := cfg) (fn := Tryz.f122) ⟨rfl, (Hp.pick u 12 [] rfl)⟩}
 refine Bk (CaO.val (A1 a4 (Hp.pick hp 13 [12, 0, 1, 2, 3, 4, 5, 6, 7, 8, 9, 10, 11] rfl) i)) rfl rfl rfl rfl rfl (by obtain ⟨a6, a7⟩ := p; rintro _ w ⟨q, rfl, t, c⟩; exact (Ad rfl (B7 rfl (Ag c 1 rfl rfl rfl rfl) (Ad rfl (Ad rfl (Ad rfl (Ad rfl A6))))))) ?_
 obtain ⟨a6, a7⟩ := p
 rintro _ w ⟨q, rfl, t, c⟩
 obtain ⟨a8, j, H⟩ := bind_some H
 rcases a8 with b7 | b8
 rotate_left
 {
 refine Bn (Gj o c j) rfl rfl rfl rfl rfl (by kernel_rfl) ?_
 intro ae y
 obtain rfl := so H
 exact Bm (C := cfg) (fn := Tryz.f122) ⟨rfl, (Hp.pick y 13 [] rfl)⟩}
 refine Bk (CaO.val (Gj o c j)) rfl rfl rfl rfl rfl (fun _ _ _ => (Ad rfl (Bd (by kernel_rfl) (Ad rfl (Ad rfl (Ad rfl (Ad rfl A6))))))) ?_
 rintro _ af ⟨rfl, z⟩
 refine A9 rfl rfl rfl rfl rfl (Ar rfl (Ar rfl A8)) (Dh ?_)
 obtain rfl := so H
 exact And.intro rfl ⟨q, t, (Hp.pick z 13 [1, 2, 3, 4, 5, 6, 7, 8, 9, 10, 11, 12, 0] rfl), (fl rfl)⟩}
 {
 rcases g with ⟨h, m⟩ | ag
 {
 intro x ah ai hJ
 obtain ⟨rfl, d, a9, a0, l⟩ := hJ
 refine Be (F := [(4, (vI h))]) l ?_
 obtain rfl := so H
 refine Aw (Fin.mk rfl ?_)
 exact ⟨d, rfl, a9, (Hp.pick a0 13 [0, 12, 1, 2, 3, 4, 5, 6, 7, 8, 9, 10, 11] rfl)⟩}
 {
 intro x aa ab hJ
 obtain rfl := so H
 cases x <;> first | exact hJ | exact hJ.elim}}

theorem gr_readRel_f79_ok {n : Nat} {b : Nat} {e : Nat} {fx : TRd} {bc : (List Ae)} {a8 : A} {ab : (List A)} {fy : A} {R : List Res} {σ : St} (bb : isOne a8 = true) (a9 : E2 a8 fx ab) (fz : Sl A0 fy bc) (hp : Hp σ (C0 b ab (.blk e (.cells [fy] 167) :: R))) {r : (PR (TRd × (List Ae)) Int)} (H : Jo n fx bc = some r) : CaO cfg 79 [(.ptr b 0), (.ptr e 0)] σ (Gq b e a8 R r) := by
 unfold Jo at H
 refine CaO.enterL (G := [(0, (.ptr b 0)), (1, (.ptr e 0))]) Tryz.func79 rfl rfl rfl rfl (Ac ?_)
 obtain ⟨bd, bw, H⟩ := bind_some H
 refine A4 (J := (fun (v : LR ((List Ae) × Eq) (PR (TRd × (List Ae)) Int)) (x : X) (φ : Fr) (s : St) => match v with | .out (d7, d8) => x = .normal ∧ (∃ (g : Nat), ∃ (be : A) (bf : (List A)), Sl A0 be d7 ∧ rTRel.rep d8 bf ∧ Hp s (C0 b ab (.blk e (.cells [be] 167) :: (gTRel g bf R))) ∧ Fl [(0, (.ptr b 0)), (1, (.ptr e 0)), (4, (.ptr g 0))] φ) | .ret r => FinR cfg Tryz.f79 (Gq b e a8 R r) x φ s) bd) ?_ ?_
 {
 have H := bw
 refine C5 (by kernel_rfl) ?_
 iterate 4 refine Az rfl rfl rfl rfl rfl rfl ?_
 obtain ⟨j5, j6, j7, j8, j9, ja, jb, jc, jd, je, jf, rfl, jg, jh, ji, jj, jk, d9, jl, jm, jn, jo, jp⟩ := a9
 refine Az (Ag hp 0 rfl rfl rfl rfl) rfl rfl rfl rfl rfl (Az rfl rfl rfl rfl rfl rfl ?_)
 obtain ⟨db, am, H⟩ := bind_some H
 rcases db with bg | hs
 rotate_left
 {
 refine Bn (A1 fz (Hp.pick hp 13 [12, 0, 1, 2, 3, 4, 5, 6, 7, 8, 9, 10, 11] rfl) am) rfl rfl rfl rfl rfl (by kernel_rfl) ?_
 intro g3 bx
 obtain rfl := so H
 exact Bm (C := cfg) (fn := Tryz.f79) ⟨rfl, (Hp.pick bx 12 [] rfl)⟩}
 refine Bk (CaO.val (A1 fz (Hp.pick hp 13 [12, 0, 1, 2, 3, 4, 5, 6, 7, 8, 9, 10, 11] rfl) am)) rfl rfl rfl rfl rfl (by obtain ⟨g0, dc⟩ := bg; rintro _ bz ⟨dd, rfl, ac, k⟩; exact (Ad rfl (B7 rfl (Ag k 1 rfl rfl rfl rfl) (Ad rfl (Ad rfl (Ad rfl (Ad rfl A6))))))) ?_
 obtain ⟨g0, dc⟩ := bg
 rintro _ bz ⟨dd, rfl, ac, k⟩
 obtain ⟨de, an, H⟩ := bind_some H
 rcases de with ht | hu
 rotate_left
 {
 refine Bn (Ku d9 k an) rfl rfl rfl rfl rfl (by kernel_rfl) ?_
 intro g4 c0
 obtain rfl := so H
 exact Bm (C := cfg) (fn := Tryz.f79) ⟨rfl, (Hp.pick c0 13 [] rfl)⟩}
 refine Bk (CaO.val (Ku d9 k an)) rfl rfl rfl rfl rfl (fun _ _ _ => (Ad rfl (Bd (by kernel_rfl) (Ad rfl (Ad rfl (Ad rfl (Ad rfl A6))))))) ?_
 rintro _ g5 ⟨rfl, ao⟩
 refine A9 rfl rfl rfl rfl rfl (Ar rfl (Ar rfl A8)) ?_
 obtain ⟨df, ap, H⟩ := bind_some H
 rcases df with dg | hv
 rotate_left
 {
 refine Bn (Bg ac ao ap) rfl rfl rfl rfl rfl (by kernel_rfl) ?_
 intro g6 c1
 obtain rfl := so H
 exact Bm (C := cfg) (fn := Tryz.f79) ⟨rfl, (Hp.pick c1 12 [] rfl)⟩}
 refine Bk (CaO.val (Bg ac ao ap)) rfl rfl rfl rfl rfl (fun _ _ _ => (Ad rfl (Ad rfl (Bd (by kernel_rfl) (Ad rfl (Ad rfl (Ad rfl (Ad rfl A6)))))))) ?_
 obtain ⟨hw, hx⟩ := dg
 rintro _ g7 ⟨dh, rfl, di, c2⟩
 refine A9 (Bh (Am rfl rfl rfl rfl rfl (Am rfl rfl rfl rfl rfl (Am rfl rfl rfl rfl rfl Bc))) rfl (Ak rfl rfl (Ak rfl rfl (Ak rfl rfl rfl))) Tryz.underlying82 rfl rfl) rfl rfl rfl rfl (Ar rfl (Ar rfl (Ar rfl A8))) ?_
 refine Ed.alloc (z := [(vS (ByteArray.mk #[])), (vI 0), (vI 0), (vI 0), (vI 0), (vI 0), (vI 0), (vI 0), (vI 0), (vI 0), A5, (vI 0), (vI 0), (vI 0), (vI 0), (vI 0), (vI 0)]) c2 rfl rfl rfl rfl rfl (fun b' σ' hp' => ((Ad rfl (Ad rfl (Ad rfl (B7 rfl (Ag hp' 2 rfl rfl rfl rfl) (Ad rfl (Ad rfl (Ad rfl (Ad rfl A6)))))))))) ?_
 intro dj g8 c3
 refine Gm c3 0 rfl (Af rfl rfl rfl rfl rfl rfl) rfl rfl rfl rfl rfl (fun σ' hp' => ((Ad rfl (Ad rfl (Ad rfl (Bd (by kernel_rfl) (Ad rfl (Ad rfl (Ad rfl (Ad rfl A6)))))))))) ?_
 intro g9 c4
 refine Dh ?_
 obtain rfl := so H
 exact And.intro rfl ⟨dj, dh, _, di, ⟨A5, rfl, Sl.nil⟩, (Hp.pick (As c4 52) 15 [3, 4, 5, 6, 7, 8, 9, 10, 11, 12, 13, 14, 2, 1, 0] rfl), (fl rfl)⟩}
 {
 rcases bd with ⟨d7, d8⟩ | hy
 {
 intro x ga gb hJ
 obtain ⟨rfl, g, be, bf, da, aa, aq, c5⟩ := hJ
 refine Be (F := [(0, (.ptr b 0)), (1, (.ptr e 0)), (4, (.ptr g 0))]) c5 (Ac (Ac (Aa (V rfl ?_))))
 obtain ⟨dk, ar, H⟩ := bind_some H
 rcases dk with dl | hz
 {
 refine Ai (A1 da (Hp.pick aq 13 [12, 0, 1, 2, 3, 4, 5, 6, 7, 8, 9, 10, 11] rfl) ar) rfl rfl rfl rfl ?_
 obtain ⟨p, i0⟩ := dl
 rintro _ gc ⟨bh, rfl, h, j⟩
 refine Ab ?_
 obtain ⟨bi, c6, H⟩ := bind_some H
 refine A4 (J := (fun (v : LR ((List Ae) × Eq) (PR (TRd × (List Ae)) Int)) (x : X) (φ : Fr) (s : St) => match v with | .out (bj, d) => x = .normal ∧ (∃ (q : A) (ad : (List A)), Sl A0 q bj ∧ rTRel.rep d ad ∧ Hp s (C0 b ab (.blk e (.cells [q] 167) :: (gTRel g ad R))) ∧ Fl [(0, (.ptr b 0)), (1, (.ptr e 0)), (4, (.ptr g 0))] φ) | .ret r => FinR cfg Tryz.f79 (Gq b e a8 R r) x φ s) bi) ?_ ?_
 {
 have H := c6
 refine Bb (Ac (Aa (W (B9 rfl (Bi _ _)) rfl (V rfl (Ab ?_)))))
 refine An (t := (decide (p = (ByteArray.mk #[110, 111, 110, 101])))) rfl (fun u => ?_) (fun u => ?_)
 {
 have H := Au u H
 refine Aa (V rfl ?_)
 obtain ⟨dm, rfl, dn⟩ := aa
 refine Al j 13 rfl (Af rfl rfl rfl rfl rfl rfl) rfl rfl rfl rfl rfl ?_
 intro gd c7
 refine Ab ?_
 obtain rfl := so H
 exact And.intro rfl ⟨bh, _, h, ⟨dm, rfl, dn⟩, (Hp.pick c7 13 [1, 2, 3, 4, 5, 6, 7, 8, 9, 10, 11, 12, 0] rfl), (fl rfl)⟩}
 {
 have H := Av u H
 refine Ac (Aa (W (B9 rfl (Bi _ _)) rfl (V rfl (Ab ?_))))
 refine An (t := (decide (p = (ByteArray.mk #[100, 97, 116, 97])))) rfl (fun w => ?_) (fun w => ?_)
 {
 have H := Au w H
 refine Ac (Aa (V rfl ?_))
 obtain ⟨dp, rfl, dq⟩ := aa
 refine Al j 13 rfl (Af rfl rfl rfl rfl rfl rfl) rfl rfl rfl rfl rfl ?_
 intro ge au
 refine Ab (Aa (V rfl ?_))
 obtain ⟨dr, av, H⟩ := bind_some H
 rcases dr with ds | i1
 {
 refine Ai (Bg h au av) rfl rfl rfl rfl ?_
 obtain ⟨i2, i3⟩ := ds
 rintro _ gf ⟨dt, rfl, du, c8⟩
 refine V rfl (Al c8 13 rfl (Af rfl rfl rfl rfl rfl rfl) rfl rfl rfl rfl rfl ?_)
 intro gg c9
 refine Ab ?_
 obtain rfl := so H
 exact And.intro rfl ⟨dt, _, du, ⟨dp, rfl, dq⟩, (Hp.pick c9 13 [1, 2, 3, 4, 5, 6, 7, 8, 9, 10, 11, 12, 0] rfl), (fl rfl)⟩}
 {
 refine Aj (Bg h au av) rfl rfl ?_
 intro gh ca
 obtain rfl := so H
 exact Fin.pan (C := cfg) (fn := Tryz.f79) ⟨rfl, (Hp.pick ca 14 [] rfl)⟩}}
 {
 have H := Av w H
 refine Ac (Aa (W (B9 rfl (Bi _ _)) rfl (V rfl (Ab ?_))))
 refine An (t := (decide (p = (ByteArray.mk #[105, 110, 115, 110])))) rfl (fun y => ?_) (fun y => ?_)
 {
 have H := Au y H
 refine Ac (Aa (V rfl ?_))
 obtain ⟨dv, rfl, dw⟩ := aa
 refine Al j 13 rfl (Af rfl rfl rfl rfl rfl rfl) rfl rfl rfl rfl rfl ?_
 intro gi aw
 refine Ab (Aa (V rfl (V rfl ?_)))
 obtain ⟨dx, ax, H⟩ := bind_some H
 rcases dx with dy | i4
 {
 refine Ai (Fd bb a9 h (Hp.pick aw 13 [1, 2, 3, 4, 5, 6, 7, 8, 9, 10, 11, 12, 0] rfl) ax) rfl rfl rfl rfl ?_
 obtain ⟨i5, i6⟩ := dy
 rintro _ gj ⟨dz, rfl, e0, cb⟩
 refine V rfl (Al cb 13 rfl (Af rfl rfl rfl rfl rfl rfl) rfl rfl rfl rfl rfl ?_)
 intro gk cc
 refine Ab ?_
 obtain rfl := so H
 exact And.intro rfl ⟨dz, _, e0, ⟨dv, rfl, dw⟩, (Hp.pick cc 13 [0, 2, 3, 4, 5, 6, 7, 8, 9, 10, 11, 12, 1] rfl), (fl rfl)⟩}
 {
 refine Aj (Fd bb a9 h (Hp.pick aw 13 [1, 2, 3, 4, 5, 6, 7, 8, 9, 10, 11, 12, 0] rfl) ax) rfl rfl ?_
 intro gl cd
 obtain rfl := so H
 exact Fin.pan (C := cfg) (fn := Tryz.f79) ⟨rfl, (Hp.pick cd 2 [] rfl)⟩}}
 {
 have H := Av y H
 refine Ac (Aa (W (B9 rfl (Bi _ _)) rfl (V rfl (Ab ?_))))
 refine An (t := (decide (p = (ByteArray.mk #[112, 97, 105, 114])))) rfl (fun a0 => ?_) (fun a0 => ?_)
 {
 have H := Au a0 H
 refine Ac (Aa (V rfl ?_))
 obtain ⟨e1, rfl, e2⟩ := aa
 refine Al j 13 rfl (Af rfl rfl rfl rfl rfl rfl) rfl rfl rfl rfl rfl ?_
 intro gm ay
 refine Ab (Ac (Aa (V rfl (V rfl ?_))))
 obtain ⟨e3, az, H⟩ := bind_some H
 rcases e3 with e4 | i7
 {
 refine Ai (Fd bb a9 h (Hp.pick ay 13 [1, 2, 3, 4, 5, 6, 7, 8, 9, 10, 11, 12, 0] rfl) az) rfl rfl rfl rfl ?_
 obtain ⟨i8, i9⟩ := e4
 rintro _ gn ⟨ia, rfl, bk, ce⟩
 refine V rfl (Al ce 13 rfl (Af rfl rfl rfl rfl rfl rfl) rfl rfl rfl rfl rfl ?_)
 intro go b0
 refine Ab (Aa (V rfl (V rfl ?_)))
 obtain ⟨e5, b1, H⟩ := bind_some H
 rcases e5 with e6 | ib
 {
 refine Ai (Fd bb a9 bk (Hp.pick b0 13 [0, 2, 3, 4, 5, 6, 7, 8, 9, 10, 11, 12, 1] rfl) b1) rfl rfl rfl rfl ?_
 obtain ⟨ic, id⟩ := e6
 rintro _ gp ⟨e7, rfl, e8, cf⟩
 refine V rfl (Al cf 13 rfl (Af rfl rfl rfl rfl rfl rfl) rfl rfl rfl rfl rfl ?_)
 intro gq cg
 refine Ab ?_
 obtain rfl := so H
 exact And.intro rfl ⟨e7, _, e8, ⟨e1, rfl, e2⟩, (Hp.pick cg 13 [0, 2, 3, 4, 5, 6, 7, 8, 9, 10, 11, 12, 1] rfl), (fl rfl)⟩}
 {
 refine Aj (Fd bb a9 bk (Hp.pick b0 13 [0, 2, 3, 4, 5, 6, 7, 8, 9, 10, 11, 12, 1] rfl) b1) rfl rfl ?_
 intro gr ch
 obtain rfl := so H
 exact Fin.pan (C := cfg) (fn := Tryz.f79) ⟨rfl, (Hp.pick ch 2 [] rfl)⟩}}
 {
 refine Aj (Fd bb a9 h (Hp.pick ay 13 [1, 2, 3, 4, 5, 6, 7, 8, 9, 10, 11, 12, 0] rfl) az) rfl rfl ?_
 intro gs ci
 obtain rfl := so H
 exact Fin.pan (C := cfg) (fn := Tryz.f79) ⟨rfl, (Hp.pick ci 2 [] rfl)⟩}}
 {
 have H := Av a0 H
 refine Aa ?_
 obtain ⟨e9, b2, H⟩ := bind_some H
 rcases e9 with ie | ig
 {
 refine Ai (Ah j b2) rfl rfl rfl rfl ?_
 rintro _ gt ⟨rfl, cj⟩
 refine Ab ?_
 obtain rfl := so H
 exact And.intro rfl ⟨bh, _, h, aa, (Hp.pick cj 13 [1, 2, 3, 4, 5, 6, 7, 8, 9, 10, 11, 12, 0] rfl), (fl rfl)⟩}
 {
 refine Aj (Ah j b2) rfl rfl ?_
 intro gu ck
 obtain rfl := so H
 exact Fin.pan (C := cfg) (fn := Tryz.f79) ⟨rfl, (Hp.pick ck 15 [] rfl)⟩}}}}}}
 {
 rcases bi with ⟨bj, d⟩ | ii
 {
 intro x gv gw hJ
 obtain ⟨rfl, q, ad, ae, ea, l, cl⟩ := hJ
 refine Be (F := [(0, (.ptr b 0)), (1, (.ptr e 0)), (4, (.ptr g 0))]) cl (Ac (Ac (Aa (V rfl ?_))))
 obtain ⟨eb, rfl, ec⟩ := ea
 refine W (Ag l 13 rfl rfl rfl rfl) rfl (V rfl (Ab ?_))
 obtain ⟨bl, cm, H⟩ := bind_some H
 refine A4 (J := (fun (v : LR (Eq × (List Ae)) (PR (TRd × (List Ae)) Int)) (x : X) (φ : Fr) (s : St) => match v with | .out (a, bm) => x = .normal ∧ (∃ (af : (List A)) (o : A), rTRel.rep a af ∧ Sl A0 o bm ∧ Hp s (C0 b ab (gTRel g af (.blk e (.cells [o] 167) :: R))) ∧ Fl [(0, (.ptr b 0)), (4, (.ptr g 0))] φ) | .ret r => FinR cfg Tryz.f79 (Gq b e a8 R r) x φ s) bl) ?_ ?_
 {
 have H := cm
 refine An (t := (d.f_Kind != 1)) rfl (fun a1 => ?_) (fun a1 => ?_)
 {
 have H := Au a1 H
 refine Ac (Aa (V rfl ?_))
 obtain ⟨ed, b3, H⟩ := bind_some H
 rcases ed with ee | ij
 {
 refine Ai (Bj ae (Hp.pick l 13 [12, 0, 1, 2, 3, 4, 5, 6, 7, 8, 9, 10, 11] rfl) b3) rfl rfl rfl rfl ?_
 obtain ⟨ik, ef⟩ := ee
 rintro _ gx ⟨il, eg, rfl, bn, eh, b4⟩
 obtain ⟨ei, b5, H⟩ := bind_some H
 rcases ei with ej | im
 {
 refine Ai (gisadl_calc_ok bn b4 b5) rfl rfl rfl rfl ?_
 rintro _ gy ⟨ek, rfl, bo, cn⟩
 refine V rfl (Al cn 14 rfl (Af rfl rfl rfl (by exact on rfl (on rfl (on rfl (on rfl (on bo.isOne on0))))) rfl rfl) rfl rfl rfl rfl rfl ?_)
 intro gz co
 refine Ab (Ac (Aa (Eo.mkMapG (f := vB) co rfl rfl rfl rfl ?_)))
 intro ag h0 cp
 refine V rfl (Ab (Bb ?_))
 obtain ⟨bp, cq, H⟩ := bind_some H
 refine A4 (J := _) (D8 (fl rfl) (Cw (f := (fun m (i : ((List Ae) × Eq × (List (ByteArray × Bool))) × (A × (List A))) => Fm n m i.1.1 i.1.2.1 i.1.2.2)) (G := (fun (i : ((List Ae) × Eq × (List (ByteArray × Bool))) × (A × (List A))) => ([(0, (.ptr b 0)), (1, (.ptr e 0)), (4, (.ptr g 0)), (5, (.mp ag))] : List (Nat × A)))) (I := (fun (i : ((List Ae) × Eq × (List (ByteArray × Bool))) × (A × (List A))) (s : St) => Sl A0 i.2.1 i.1.1 ∧ rTRel.rep i.1.2.1 i.2.2 ∧ Hp s (C0 b ab (.blk e (.cells [i.2.1] 167) :: (gTRel g i.2.2 (.blk ag (mapG vB i.1.2.2) :: R)))))) (J := (fun (v : LR (Eq × (List Ae)) (PR (TRd × (List Ae)) Int)) (x : X) (φ : Fr) (s : St) => match v with | .out (bq, br) => x = (.exit 1) ∧ (∃ (ah : (List A)) (a2 : A), rTRel.rep bq ah ∧ Sl A0 a2 br ∧ Hp s (C0 b ab (gTRel g ah (.blk e (.cells [a2] 167) :: R))) ∧ Fl [(0, (.ptr b 0)), (4, (.ptr g 0))] φ) | .ret r => FinR cfg Tryz.f79 (Gq b e a8 R r) x φ s)) (fun _ => rfl) ?_ n ((ef, (Eq.mk d.f_Name d.f_Num d.f_Kind d.f_Bytes d.f_Class d.f_Class2 ej d.f_Sign d.f_Width d.f_Align d.f_Round d.f_Hi d.f_Lo), ([] : (List (ByteArray × Bool)))), (eg, _)) _ bp ⟨eh, ⟨ek, rfl, bo⟩, (Hp.pick cp 17 [3, 4, 5, 6, 7, 8, 9, 10, 11, 12, 13, 14, 2, 15, 1, 0] rfl)⟩ cq)) ?_
 {
 rintro m ⟨⟨el, em, en⟩, ⟨eo, io⟩⟩ g1 v ⟨a3, ai, g2⟩ H ih
 change Fm n (m + 1) el em en = some v at H
 rw [Fm] at H
 change Ec _ _ _ [(0, (.ptr b 0)), (1, (.ptr e 0)), (4, (.ptr g 0)), (5, (.mp ag))] g1 _
 refine Ac (Ac (Aa (V rfl ?_)))
 obtain ⟨ep, bs, H⟩ := bind_some H
 refine A2 rfl rfl rfl rfl (Hl a3 (Hp.pick g2 13 [12, 0, 1, 2, 3, 4, 5, 6, 7, 8, 9, 10, 11] rfl) bs) ?_
 rintro _ h1 ⟨rfl, a4⟩
 refine Ab ?_
 refine An (t := ep) rfl (fun a5 => ?_) (fun a5 => ?_)
 {
 have H := Au a5 H
 refine A7 (Bb (Aa (V rfl ?_)))
 obtain ⟨eq, b6, H⟩ := bind_some H
 rcases eq with er | ip
 {
 refine Ai (Bj a3 a4 b6) rfl rfl rfl rfl ?_
 obtain ⟨iq, es⟩ := er
 rintro _ h2 ⟨ir, et, rfl, bt, eu, b7⟩
 obtain ⟨ev, b8, H⟩ := bind_some H
 rcases ev with it | iu
 {
 refine Ai (Bo bt b7 b8) rfl rfl rfl rfl ?_
 rintro _ h3 ⟨fw, iv, rfl, bu, b9⟩
 refine V rfl ?_
 obtain ⟨ew, ba, H⟩ := bind_some H
 rcases ew with ex | iw
 {
 refine Ai (gisadl_check_ok ai bu (Hp.pick b9 17 [14, 15, 0, 16, 1, 2, 3, 4, 5, 6, 7, 8, 9, 10, 11, 12, 13] rfl) ba) rfl rfl rfl rfl ?_
 obtain ⟨ey, ix, ez⟩ := ex
 rintro _ h4 ⟨iy, iz, rfl, f0, j0, cr⟩
 refine Ab ?_
 exact Be (fl rfl) (ih ((es, ey, ez), (et, _)) _ ⟨eu, f0, (Hp.pick cr 17 [5, 6, 7, 8, 9, 10, 11, 12, 13, 14, 15, 16, 4, 0, 3, 2] rfl)⟩ H)}
 {
 refine Aj (gisadl_check_ok ai bu (Hp.pick b9 17 [14, 15, 0, 16, 1, 2, 3, 4, 5, 6, 7, 8, 9, 10, 11, 12, 13] rfl) ba) rfl rfl ?_
 intro h5 cs
 obtain rfl := so H
 exact Fin.pan (C := cfg) (fn := Tryz.f79) ⟨rfl, (Hp.pick cs 13 [] rfl)⟩}}
 {
 refine Aj (Bo bt b7 b8) rfl rfl ?_
 intro h6 ct
 obtain rfl := so H
 exact Fin.pan (C := cfg) (fn := Tryz.f79) ⟨rfl, (Hp.pick ct 16 [] rfl)⟩}}
 {
 refine Aj (Bj a3 a4 b6) rfl rfl ?_
 intro h7 cu
 obtain rfl := so H
 exact Fin.pan (C := cfg) (fn := Tryz.f79) ⟨rfl, (Hp.pick cu 15 [] rfl)⟩}}
 {
 have H := Av a5 H
 refine D9 ?_
 obtain rfl := so H
 exact And.intro rfl ⟨_, eo, ai, a3, (Hp.pick a4 16 [1, 2, 3, 4, 5, 6, 7, 8, 9, 10, 11, 12, 13, 14, 0] rfl), (fl rfl)⟩}}
 {
 rcases bp with ⟨bq, br⟩ | j1
 {
 intro x h8 h9 hJ
 obtain ⟨rfl, ah, a2, f1, f2, cv, cw⟩ := hJ
 obtain rfl := so H
 exact And.intro rfl ⟨_, a2, f1, f2, cv, (Fl.trans (G := [(0, (.ptr b 0)), (4, (.ptr g 0))]) (fl rfl) cw)⟩}
 {
 intro x ha hb hJ
 obtain rfl := so H
 cases x <;> first | exact hJ | exact hJ.elim}}}
 {
 refine Aj (gisadl_calc_ok bn b4 b5) rfl rfl ?_
 intro hc cx
 obtain rfl := so H
 exact Fin.pan (C := cfg) (fn := Tryz.f79) ⟨rfl, (Hp.pick cx 15 [] rfl)⟩}}
 {
 refine Aj (Bj ae (Hp.pick l 13 [12, 0, 1, 2, 3, 4, 5, 6, 7, 8, 9, 10, 11] rfl) b3) rfl rfl ?_
 intro hd cy
 obtain rfl := so H
 exact Fin.pan (C := cfg) (fn := Tryz.f79) ⟨rfl, (Hp.pick cy 14 [] rfl)⟩}}
 {
 have H := Av a1 H
 refine A7 ?_
 obtain rfl := so H
 exact And.intro rfl ⟨_, q, ⟨eb, rfl, ec⟩, ae, (Hp.pick l 15 [0, 1, 2, 3, 4, 5, 6, 7, 8, 9, 10, 11, 13, 14, 12] rfl), (fl rfl)⟩}}
 {
 rcases bl with ⟨a, bm⟩ | j2
 {
 intro x he hf hJ
 obtain ⟨rfl, af, o, f3, f4, a6, cz⟩ := hJ
 refine Be (F := [(0, (.ptr b 0)), (4, (.ptr g 0))]) cz ?_
 obtain ⟨aj, d0, H⟩ := bind_some H
 refine A4 (J := (fun (aj : TRd) (x : X) (φ : Fr) (s : St) => x = .normal ∧ (∃ (ak : (List A)), E2 a8 aj ak ∧ Hp s (C0 b ak (.blk e (.cells [o] 167) :: R)) ∧ Fl [] φ)) aj) ?_ ?_
 {
 have H := d0
 refine Fv (by kernel_rfl) ?_
 iterate 5 refine V rfl ?_
 obtain ⟨f5, f6, f7, f8, f9, j3, fa, fb, fc, fd, fe, rfl, ff, fg, fh, fi, fj, fk, fm, fo, fp, fq, fr⟩ := a9
 refine W (Ag a6 0 rfl rfl rfl rfl) rfl ?_
 obtain ⟨a7, rfl, fs⟩ := f3
 refine W (Ag a6 12 rfl rfl rfl rfl) rfl ?_
 refine W (Cy (Am rfl rfl rfl rfl rfl Bc) rfl (Ak rfl rfl rfl) Tryz.underlying32 rfl rfl rfl rfl (by decide) rfl) rfl ?_
 have ft : Sl rTRel (.sl 17 [(vS a.f_Name), (vI a.f_Num), (vI a.f_Kind), (vI a.f_Bytes), (vI a.f_Class), (vI a.f_Class2), (vI a.f_Calc.f_Op), (vI a.f_Calc.f_W), (vI a.f_Calc.f_A), (vI a.f_Calc.f_B), a7, (vI a.f_Sign), (vI a.f_Width), (vI a.f_Align), (vI a.f_Round), (vI a.f_Hi), (vI a.f_Lo)] .ex) ([a] : List Eq) := .inr ⟨_, _, rfl, (.cons (c := [(vS a.f_Name), (vI a.f_Num), (vI a.f_Kind), (vI a.f_Bytes), (vI a.f_Class), (vI a.f_Class2), (vI a.f_Calc.f_Op), (vI a.f_Calc.f_W), (vI a.f_Calc.f_A), (vI a.f_Calc.f_B), a7, (vI a.f_Sign), (vI a.f_Width), (vI a.f_Align), (vI a.f_Round), (vI a.f_Hi), (vI a.f_Lo)]) ⟨a7, rfl, fs⟩ .nil)⟩
 have d1 := Dv a6 82 17 [(vS a.f_Name), (vI a.f_Num), (vI a.f_Kind), (vI a.f_Bytes), (vI a.f_Class), (vI a.f_Class2), (vI a.f_Calc.f_Op), (vI a.f_Calc.f_W), (vI a.f_Calc.f_A), (vI a.f_Calc.f_B), a7, (vI a.f_Sign), (vI a.f_Width), (vI a.f_Align), (vI a.f_Round), (vI a.f_Hi), (vI a.f_Lo)]
 obtain ⟨j4, bv, H⟩ := bind_some H
 refine Hy d1 7 rfl fk (New.of ft) bv rfl rfl rfl rfl rfl rfl rfl Tryz.underlying32 rfl Tryz.underlying32 rfl rfl rfl rfl rfl rfl rfl rfl ?_
 intro fu hg al d2
 iterate 3 refine V rfl ?_
 refine Al d2 1 rfl (Af (al.cells) rfl rfl (by exact on al.isOne on0) rfl rfl) rfl rfl rfl rfl rfl ?_
 intro hh d3
 refine Ab ?_
 obtain rfl := so H
 exact And.intro rfl (And.intro rfl ⟨_, ⟨f5, f6, f7, f8, f9, fu, fa, fb, fc, fd, fe, rfl, ff, fg, fh, fi, fj, al, fm, fo, fp, fq, fr⟩, (Hp.pick d3 15 [1, 2, 3, 4, 5, 6, 7, 8, 9, 10, 11, 12] rfl), (.nil')⟩)}
 {
 intro x hi hj hJ
 obtain ⟨rfl, ak, fv, d4, d5⟩ := hJ
 obtain rfl := so H
 refine Fin.mkNφ (C := cfg) (fn := Tryz.f79) d5 rfl ?_
 exact ⟨_, o, rfl, fv, f4, (Hp.pick d4 13 [0, 12, 1, 2, 3, 4, 5, 6, 7, 8, 9, 10, 11] rfl)⟩}}
 {
 intro x hk hl hJ
 obtain rfl := so H
 cases x <;> first | exact hJ | exact hJ.elim}}}
 {
 intro x hm hn hJ
 obtain rfl := so H
 cases x <;> first | exact hJ | exact hJ.elim}}}
 {
 refine Aj (A1 da (Hp.pick aq 13 [12, 0, 1, 2, 3, 4, 5, 6, 7, 8, 9, 10, 11] rfl) ar) rfl rfl ?_
 intro ho d6
 obtain rfl := so H
 exact Fin.pan (C := cfg) (fn := Tryz.f79) ⟨rfl, (Hp.pick d6 14 [] rfl)⟩}}
 {
 intro x hq hr hJ
 obtain rfl := so H
 cases x <;> first | exact hJ | exact hJ.elim}}

theorem gr_readUse_f80_ok {n : Nat} {a : Nat} {b : Nat} {aq : TRd} {ah : (List Ae)} {ai : A} {bq : (List A)} {br : A} {R : List Res} {σ : St} (ar : isOne ai = true) (c8 : E2 ai aq bq) (bs : Sl A0 br ah) (hp : Hp σ (C0 a bq (.blk b (.cells [br] 167) :: R))) {r : (PR (TRd × (List Ae)) Int)} (H : Jp n aq ah = some r) : CaO cfg 80 [(.ptr a 0), (.ptr b 0)] σ (gr_readUse_f80_post a b ai R r) := by
 unfold Jp at H
 refine CaO.enterL (G := [(0, (.ptr a 0)), (1, (.ptr b 0))]) Tryz.func80 rfl rfl rfl rfl (Ac (Aa ?_))
 iterate 4 refine V rfl ?_
 obtain ⟨e, f, g, h, i, j, q, k, l, m, o, rfl, u, v, w, y, a0, a1, p, a2, a3, a4, a5⟩ := c8
 refine W (Ag hp 0 rfl rfl rfl rfl) rfl (W (Cj p rfl rfl rfl rfl rfl Tryz.underlying33) rfl (V rfl ?_))
 obtain ⟨b8, aa, H⟩ := bind_some H
 rcases b8 with c9 | ca
 {
 refine Ai (Ah hp aa) rfl rfl rfl rfl ?_
 rintro _ cb ⟨rfl, aj⟩
 refine Ab (Ac (Aa (V rfl ?_)))
 obtain ⟨b9, ab, H⟩ := bind_some H
 rcases b9 with ba | cc
 {
 refine Ai (A1 bs (Hp.pick aj 13 [12, 0, 1, 2, 3, 4, 5, 6, 7, 8, 9, 10, 11] rfl) ab) rfl rfl rfl rfl ?_
 obtain ⟨bt, cr⟩ := ba
 rintro _ cd ⟨bu, rfl, b5, bb⟩
 refine W (Bh (Am rfl rfl rfl rfl rfl Bc) rfl (Ak rfl rfl rfl) Tryz.underlying119 rfl rfl) rfl ?_
 refine Cs (z := [(vS (ByteArray.mk #[])), (vI 0), (vI 0), (vB false)]) bb rfl rfl rfl rfl rfl ?_
 intro ak ce bc
 refine Al bc 0 rfl (Af rfl rfl rfl rfl rfl rfl) rfl rfl rfl rfl rfl ?_
 intro cf a6
 refine Ab (Ac (Ac (Aa (V rfl (W (Ag a6 0 rfl rfl rfl rfl) rfl ?_)))))
 refine W (B9 rfl (Bi _ _)) rfl (Ab ?_)
 obtain ⟨d, au, H⟩ := bind_some H
 refine A4 (J := (fun (d : ByteArray) (x : X) (φ : Fr) (s : St) => x = .normal ∧ (Hp s (C0 a [(vS aq.f_Desc.f_Name), (vI aq.f_Desc.f_Order), e, f, g, h, i, j, q, k, l, m, o, ai] (.blk b (.cells [bu] 167) :: .blk ak (.cells [(vS d), (vI 0), (vI 0), (vB false)] 119) :: R)) ∧ Fl [(0, (.ptr a 0)), (1, (.ptr b 0)), (4, (.ptr ak 0))] φ)) d) ?_ ?_
 {
 have H := au
 refine An (t := (decide (bt = (ByteArray.mk #[110, 111, 110, 101])))) rfl (fun a7 => ?_) (fun a7 => ?_)
 {
 have H := Au a7 H
 refine Aa (V rfl (Al a6 0 rfl (Af rfl rfl rfl rfl rfl rfl) rfl rfl rfl rfl rfl ?_))
 intro cg bd
 refine Ab ?_
 obtain rfl := so H
 exact And.intro rfl ⟨(Hp.pick bd 14 [2, 3, 4, 5, 6, 7, 8, 9, 10, 11, 12, 13, 1, 0] rfl), (fl rfl)⟩}
 {
 have H := Av a7 H
 refine A7 ?_
 obtain rfl := so H
 exact And.intro rfl ⟨(Hp.pick a6 14 [2, 3, 4, 5, 6, 7, 8, 9, 10, 11, 12, 13, 1, 0] rfl), (fl rfl)⟩}}
 {
 intro x ch ci hJ
 obtain ⟨rfl, al, be⟩ := hJ
 refine Be (F := [(0, (.ptr a 0)), (1, (.ptr b 0)), (4, (.ptr ak 0))]) be (Ac (Aa (V rfl (V rfl ?_))))
 obtain ⟨bf, ac, H⟩ := bind_some H
 rcases bf with bg | cj
 {
 refine Ai (Fd ar ⟨e, f, g, h, i, j, q, k, l, m, o, rfl, u, v, w, y, a0, a1, p, a2, a3, a4, a5⟩ b5 al ac) rfl rfl rfl rfl ?_
 obtain ⟨ad, cs⟩ := bg
 rintro _ ck ⟨ct, rfl, b6, bh⟩
 refine V rfl (Al bh 13 rfl (Af rfl rfl rfl rfl rfl rfl) rfl rfl rfl rfl rfl ?_)
 intro cl am
 refine Ab (Ac (Aa (V rfl (V rfl ?_))))
 obtain ⟨bi, ae, H⟩ := bind_some H
 rcases bi with bj | cm
 {
 refine Ai (G1 ar ⟨e, f, g, h, i, j, q, k, l, m, o, rfl, u, v, w, y, a0, a1, p, a2, a3, a4, a5⟩ b6 (Hp.pick am 13 [0, 2, 3, 4, 5, 6, 7, 8, 9, 10, 11, 12, 1] rfl) ae) rfl rfl rfl rfl ?_
 obtain ⟨af, cu⟩ := bj
 rintro _ cn ⟨cv, rfl, bv, bk⟩
 refine V rfl (Al bk 13 rfl (Af rfl rfl rfl rfl rfl rfl) rfl rfl rfl rfl rfl ?_)
 intro co bl
 refine Ab (Ac (Aa (V rfl ?_)))
 obtain ⟨bm, an, H⟩ := bind_some H
 refine A2 rfl rfl rfl rfl (gc_is_ok bv (Hp.pick bl 2 [1, 0] rfl) an) ?_
 obtain ⟨ag, cw⟩ := bm
 rintro _ cp ⟨b7, rfl, bw, bn⟩
 refine V rfl (Al bn 13 rfl (Af rfl rfl rfl rfl rfl rfl) rfl rfl rfl rfl rfl ?_)
 intro cq a8
 refine Ab ?_
 obtain ⟨ao, av, H⟩ := bind_some H
 refine A4 (J := (fun (ao : TRd) (x : X) (φ : Fr) (s : St) => x = .normal ∧ (∃ (ap : (List A)), E2 ai ao ap ∧ Hp s (C0 a ap (.blk b (.cells [b7] 167) :: R)) ∧ Fl [] φ)) ao) ?_ ?_
 {
 have H := av
 refine Fv (by kernel_rfl) ?_
 iterate 5 refine V rfl ?_
 refine W (Ag a8 1 rfl rfl rfl rfl) rfl (W (Ag a8 13 rfl rfl rfl rfl) rfl ?_)
 refine W (Cy (Am rfl rfl rfl rfl rfl Bc) rfl (Ak rfl rfl rfl) Tryz.underlying33 rfl rfl rfl rfl (by decide) rfl) rfl ?_
 have bx : Sl rTUse (.sl 4 [(vS d), (vI ad), (vI af), (vB ag)] .ex) ([(TUse.mk d ad af ag)] : List TUse) := .inr ⟨_, _, rfl, (.cons (c := [(vS d), (vI ad), (vI af), (vB ag)]) rfl .nil)⟩
 have bo := Dv a8 119 4 [(vS d), (vI ad), (vI af), (vB ag)]
 obtain ⟨cx, aw, H⟩ := bind_some H
 refine Hy bo 9 rfl p (New.of bx) aw rfl rfl rfl rfl rfl rfl rfl Tryz.underlying33 rfl Tryz.underlying33 rfl rfl rfl rfl rfl rfl rfl rfl ?_
 intro bp c0 a9 ax
 iterate 3 refine V rfl ?_
 refine Al ax 2 rfl (Af (a9.cells) rfl rfl (by exact on a9.isOne on0) rfl rfl) rfl rfl rfl rfl rfl ?_
 intro c1 ay
 refine Ab ?_
 obtain rfl := so H
 exact And.intro rfl (And.intro rfl ⟨_, ⟨e, f, g, h, i, j, bp, k, l, m, o, rfl, u, v, w, y, a0, a1, a9, a2, a3, a4, a5⟩, (Hp.pick ay 15 [2, 3, 4, 5, 6, 7, 8, 9, 10, 11, 12, 13, 1] rfl), (.nil')⟩)}
 {
 intro x c2 c3 hJ
 obtain ⟨rfl, ap, bz, az, b0⟩ := hJ
 obtain rfl := so H
 refine Fin.mkNφ (C := cfg) (fn := Tryz.f80) b0 rfl ?_
 exact ⟨_, b7, rfl, bz, bw, (Hp.pick az 13 [0, 12, 1, 2, 3, 4, 5, 6, 7, 8, 9, 10, 11] rfl)⟩}}
 {
 refine Aj (G1 ar ⟨e, f, g, h, i, j, q, k, l, m, o, rfl, u, v, w, y, a0, a1, p, a2, a3, a4, a5⟩ b6 (Hp.pick am 13 [0, 2, 3, 4, 5, 6, 7, 8, 9, 10, 11, 12, 1] rfl) ae) rfl rfl ?_
 intro c4 b1
 obtain rfl := so H
 exact Fin.pan (C := cfg) (fn := Tryz.f80) ⟨rfl, (Hp.pick b1 1 [] rfl)⟩}}
 {
 refine Aj (Fd ar ⟨e, f, g, h, i, j, q, k, l, m, o, rfl, u, v, w, y, a0, a1, p, a2, a3, a4, a5⟩ b5 al ac) rfl rfl ?_
 intro c5 b2
 obtain rfl := so H
 exact Fin.pan (C := cfg) (fn := Tryz.f80) ⟨rfl, (Hp.pick b2 1 [] rfl)⟩}}}
 {
 refine Aj (A1 bs (Hp.pick aj 13 [12, 0, 1, 2, 3, 4, 5, 6, 7, 8, 9, 10, 11] rfl) ab) rfl rfl ?_
 intro c6 b3
 obtain rfl := so H
 exact Fin.pan (C := cfg) (fn := Tryz.f80) ⟨rfl, (Hp.pick b3 12 [] rfl)⟩}}
 {
 refine Aj (Ah hp aa) rfl rfl ?_
 intro c7 b4
 obtain rfl := so H
 exact Fin.pan (C := cfg) (fn := Tryz.f80) ⟨rfl, (Hp.pick b4 13 [] rfl)⟩}

theorem gr_item_f28_ok {n : Nat} {d : Nat} {k8 : TRd} {dg : Ae} {oc : Bool} {h : A} {ha : (List A)} {od : A} {R : List Res} {σ : St} (f : isOne h = true) (g : E2 h k8 ha) (oe : Sl A0 od dg.f_Kids) (hp : Hp σ (C0 d ha R)) {r : (PR TRd Int)} (H : gr_item_f28 n k8 dg oc = some r) : CaO cfg 28 [(.ptr d 0), (.agg [(vI dg.f_Kind), (vS dg.f_Word), (vI dg.f_Num), od]), (vB oc)] σ (De d R r) := by
 unfold gr_item_f28 at H
 refine CaO.enterL (G := [(0, (.ptr d 0)), (1, (.agg [(vI dg.f_Kind), (vS dg.f_Word), (vI dg.f_Num), od])), (2, (vB oc))]) Tryz.func28 rfl rfl rfl rfl (Ac (Aa (Cb hp rfl (by exact on rfl (on rfl (on rfl (on oe.isOne on0)))) rfl rfl rfl rfl rfl ?_)))
 intro vl vh ej
 refine Ab (Ac (Aa (W (Ag ej 0 rfl rfl rfl rfl) rfl ?_)))
 obtain ⟨k9, dh, H⟩ := bind_some H
 rcases k9 with vm | re
 {
 refine Ai (Bo oe ej dh) rfl rfl rfl rfl ?_
 rintro _ vi ⟨a, vn, rfl, ob, hb⟩
 refine V rfl (Ab (Ac (Aa (V rfl ?_))))
 obtain ⟨ka, di, H⟩ := bind_some H
 rcases ka with kb | rf
 {
 refine Ai (A1 ob hb di) rfl rfl rfl rfl ?_
 obtain ⟨o, vo⟩ := kb
 rintro _ vj ⟨og, rfl, e, hc⟩
 refine V rfl (Ab (Ac (Aa (V rfl (V rfl ?_)))))
 refine W (B9 rfl (Bi _ _)) rfl (V rfl ?_)
 obtain ⟨kc, dj, H⟩ := bind_some H
 rcases kc with rg | rh
 {
 refine Ai (Ah hc dj) rfl rfl rfl rfl ?_
 rintro _ vk ⟨rfl, b⟩
 refine Ab (Ac (Ac (Aa (V rfl (Ab ?_)))))
 obtain ⟨ek, hd, H⟩ := bind_some H
 refine A4 (J := (fun (v : LR ((List Ae) × TRd) (PR TRd Int)) (x : X) (φ : Fr) (s : St) => match v with | .out (el, em) => x = .normal ∧ (∃ (bq aw : A) (br : (List A)), Sl A0 bq el ∧ isOne aw = true ∧ E2 aw em br ∧ Hp s (.blk a (.cells [bq] 167) :: (C0 d br R)) ∧ Fl [(6, (.ptr a 0))] φ) | .ret r => FinR cfg Tryz.f28 (De d R r) x φ s) ek) ?_ ?_
 {
 have H := hd
 refine Bb (Ac (Aa (W (B9 rfl (Bi _ _)) rfl (V rfl (Ab ?_)))))
 refine An (t := (decide (o = (ByteArray.mk #[105, 115, 97])))) rfl (fun b3 => ?_) (fun b3 => ?_)
 {
 have H := Au b3 H
 refine Ac (Aa (V rfl (V rfl ?_)))
 obtain ⟨kd, dk, H⟩ := bind_some H
 rcases kd with ke | ri
 {
 refine Ai (A1 e b dk) rfl rfl rfl rfl ?_
 obtain ⟨rj, rk⟩ := ke
 rintro _ oh ⟨rl, rfl, en, he⟩
 iterate 3 refine V rfl ?_
 obtain ⟨eo, ep, eq, er, es, et, eu, ev, ew, ex, ey, rfl, ez, f0, f1, f2, f3, f4, f5, f6, f7, f8, f9⟩ := g
 refine Al he 2 rfl (Af rfl rfl rfl rfl rfl rfl) rfl rfl rfl rfl rfl ?_
 intro oi dl
 refine Ab (Ac (Aa (V rfl ?_)))
 obtain ⟨kf, dm, H⟩ := bind_some H
 rcases kf with kg | rm
 {
 refine Ai (A1 en dl dm) rfl rfl rfl rfl ?_
 obtain ⟨a7, rn⟩ := kg
 rintro _ oj ⟨fa, rfl, fb, dn⟩
 refine V rfl (Ab (Ac (Aa (V rfl (W (B9 rfl (Bi _ _)) rfl ?_)))))
 refine V rfl ?_
 refine Gr 3 [(0, (.ptr d 0)), (6, (.ptr a 0)), (8, (vS a7)), (40, (vB ((decide (a7 = (ByteArray.mk #[119, 111, 114, 100]))) || (decide (a7 = (ByteArray.mk #[98, 121, 116, 101, 115]))))))] ?_ ?_
 {
 cases ok : (decide (a7 = (ByteArray.mk #[119, 111, 114, 100])))
 {
 refine V rfl (W (B9 rfl (Bi _ _)) rfl (V rfl ?_))
 exact Ab (nn (fl rfl))}
 {
 refine Co rfl rfl rfl (Co rfl rfl rfl (V rfl ?_))
 exact Ab (nn (fl rfl))}}
 {
 obtain ⟨kh, dp, H⟩ := bind_some H
 rcases kh with ro | rp
 {
 refine Ai (Ah dn dp) rfl rfl rfl rfl ?_
 rintro _ ol ⟨rfl, hf⟩
 refine Ab (Ac (Aa ?_))
 iterate 4 refine V rfl ?_
 refine Al hf 2 rfl (Af rfl rfl rfl rfl rfl rfl) rfl rfl rfl rfl rfl ?_
 intro om dq
 refine Ab (Ac (Aa (V rfl (W (B9 rfl (Bi _ _)) rfl (Ab ?_)))))
 refine An (t := (decide (a7 = (ByteArray.mk #[98, 121, 116, 101, 115])))) rfl (fun b4 => ?_) (fun b4 => ?_)
 {
 have H := Au b4 H
 refine Aa ?_
 iterate 4 refine V rfl ?_
 refine Al dq 2 rfl (Af rfl rfl rfl rfl rfl rfl) rfl rfl rfl rfl rfl ?_
 intro oo hg
 refine Ab ?_
 obtain rfl := so H
 exact And.intro rfl ⟨fa, h, _, fb, f, ⟨eo, ep, eq, er, es, et, eu, ev, ew, ex, ey, rfl, ez, f0, f1, f2, f3, f4, f5, f6, f7, f8, f9⟩, (Hp.pick hg 2 [0] rfl), (fl rfl)⟩}
 {
 have H := Av b4 H
 refine A7 ?_
 obtain rfl := so H
 exact And.intro rfl ⟨fa, h, _, fb, f, ⟨eo, ep, eq, er, es, et, eu, ev, ew, ex, ey, rfl, ez, f0, f1, f2, f3, f4, f5, f6, f7, f8, f9⟩, (Hp.pick dq 2 [0] rfl), (fl rfl)⟩}}
 {
 refine Aj (Ah dn dp) rfl rfl ?_
 intro op hh
 obtain rfl := so H
 exact Fin.pan (C := cfg) (fn := Tryz.f28) ⟨rfl, (Hp.pick hh 14 [] rfl)⟩}}}
 {
 refine Aj (A1 en dl dm) rfl rfl ?_
 intro oq hi
 obtain rfl := so H
 exact Fin.pan (C := cfg) (fn := Tryz.f28) ⟨rfl, (Hp.pick hi 13 [] rfl)⟩}}
 {
 refine Aj (A1 e b dk) rfl rfl ?_
 intro os hj
 obtain rfl := so H
 exact Fin.pan (C := cfg) (fn := Tryz.f28) ⟨rfl, (Hp.pick hj 13 [] rfl)⟩}}
 {
 have H := Av b3 H
 refine Ac (Aa (W (B9 rfl (Bi _ _)) rfl (V rfl (Ab ?_))))
 refine An (t := (decide (o = (ByteArray.mk #[102, 105, 108, 101])))) rfl (fun b5 => ?_) (fun b5 => ?_)
 {
 have H := Au b5 H
 refine Aa (V rfl (V rfl ?_))
 obtain ⟨ki, dr, H⟩ := bind_some H
 rcases ki with kj | rq
 {
 refine Ai (gr_readFile_f69_ok f g e (Hp.pick b 14 [2, 3, 4, 5, 6, 7, 8, 9, 10, 11, 12, 13, 0, 1] rfl) dr) rfl rfl rfl rfl ?_
 obtain ⟨rr, rs⟩ := kj
 rintro _ ot ⟨rt, kk, rfl, kl, km, hk⟩
 refine Ab ?_
 obtain rfl := so H
 exact And.intro rfl ⟨kk, h, _, km, f, kl, (Hp.pick hk 14 [1, 0, 2, 3, 4, 5, 6, 7, 8, 9, 10, 11, 12] rfl), (fl rfl)⟩}
 {
 refine Aj (gr_readFile_f69_ok f g e (Hp.pick b 14 [2, 3, 4, 5, 6, 7, 8, 9, 10, 11, 12, 13, 0, 1] rfl) dr) rfl rfl ?_
 intro ou hl
 obtain rfl := so H
 exact Fin.pan (C := cfg) (fn := Tryz.f28) ⟨rfl, (Hp.pick hl 1 [] rfl)⟩}}
 {
 have H := Av b5 H
 refine Ac (Aa (W (B9 rfl (Bi _ _)) rfl (V rfl (Ab ?_))))
 refine An (t := (decide (o = (ByteArray.mk #[97, 108, 105, 97, 115])))) rfl (fun b6 => ?_) (fun b6 => ?_)
 {
 have H := Au b6 H
 refine Ac ?_
 obtain ⟨fc, hm, H⟩ := bind_some H
 refine A4 (J := (fun (v : LR (ByteArray × (List Ae)) (PR TRd Int)) (x : X) (φ : Fr) (s : St) => match v with | .out (i, fd) => x = .normal ∧ (∃ (bs : A), Sl A0 bs fd ∧ Hp s (C0 d ha (.blk a (.cells [bs] 167) :: R)) ∧ Fl [(0, (.ptr d 0)), (6, (.ptr a 0)), (9, (vS i))] φ) | .ret r => FinR cfg Tryz.f28 (De d R r) x φ s) fc) ?_ ?_
 {
 have H := hm
 refine C5 (by kernel_rfl) ?_
 iterate 4 refine Az rfl rfl rfl rfl rfl rfl ?_
 obtain ⟨ru, rv, rw, rx, ry, rz, s0, s1, s2, s3, s4, rfl, s5, fe, s6, s7, s8, s9, sa, sb, sc, sd, se⟩ := g
 refine Az (Ag b 2 rfl rfl rfl rfl) rfl rfl rfl rfl rfl (Az rfl rfl rfl rfl rfl rfl ?_)
 obtain ⟨kn, ds, H⟩ := bind_some H
 rcases kn with ff | sf
 rotate_left
 {
 refine Bn (A1 e b ds) rfl rfl rfl rfl rfl (by kernel_rfl) ?_
 intro ov hn
 obtain rfl := so H
 exact Bm (C := cfg) (fn := Tryz.f28) ⟨rfl, (Hp.pick hn 13 [] rfl)⟩}
 refine Bk (CaO.val (A1 e b ds)) rfl rfl rfl rfl rfl (by obtain ⟨ko, kp⟩ := ff; rintro _ ho ⟨fg, rfl, fh, a8⟩; exact (Ad rfl (B7 rfl (Ag a8 2 rfl rfl rfl rfl) (Ad rfl (Ad rfl (Ad rfl (Ad rfl A6))))))) ?_
 obtain ⟨ko, kp⟩ := ff
 rintro _ ho ⟨fg, rfl, fh, a8⟩
 obtain ⟨kq, dt, H⟩ := bind_some H
 rcases kq with sg | sh
 rotate_left
 {
 refine Bn (Hn fe a8 dt) rfl rfl rfl rfl rfl (by kernel_rfl) ?_
 intro ow hq
 obtain rfl := so H
 exact Bm (C := cfg) (fn := Tryz.f28) ⟨rfl, (Hp.pick hq 14 [] rfl)⟩}
 refine Bk (CaO.val (Hn fe a8 dt)) rfl rfl rfl rfl rfl (fun _ _ _ => (Ad rfl (Bd (by kernel_rfl) (Ad rfl (Ad rfl (Ad rfl (Ad rfl A6))))))) ?_
 rintro _ ox ⟨rfl, hr⟩
 refine A9 rfl rfl rfl rfl rfl (Ar rfl (Ar rfl A8)) (Dh ?_)
 obtain rfl := so H
 exact And.intro rfl ⟨fg, fh, (Hp.pick hr 14 [2, 3, 4, 5, 6, 7, 8, 9, 10, 11, 12, 13, 0] rfl), (fl rfl)⟩}
 {
 rcases fc with ⟨i, fd⟩ | si
 {
 intro x oy oz hJ
 obtain ⟨rfl, bs, fi, b7, hs⟩ := hJ
 refine Be (F := [(0, (.ptr d 0)), (6, (.ptr a 0)), (9, (vS i))]) hs ?_
 obtain ⟨fj, ht, H⟩ := bind_some H
 refine A4 (J := (fun (v : LR ((List Ae) × TRd) (PR TRd Int)) (x : X) (φ : Fr) (s : St) => match v with | .out (fk, fm) => x = .normal ∧ (∃ (ax : A) (bt : (List A)), Sl A0 ax fk ∧ E2 h fm bt ∧ Hp s (.blk a (.cells [ax] 167) :: (C0 d bt R)) ∧ Fl [(6, (.ptr a 0))] φ) | .ret r => FinR cfg Tryz.f28 (De d R r) x φ s) fj) ?_ ?_
 {
 have H := ht
 refine C5 (by kernel_rfl) ?_
 iterate 5 refine Az rfl rfl rfl rfl rfl rfl ?_
 obtain ⟨bu, fo, bv, bw, bx, bz, c0, c1, c2, c3, c4, rfl, c5, c6, c7, c8, c9, ca, cb, cc, cd, ce, cf⟩ := g
 refine Az (Ag b7 0 rfl rfl rfl rfl) rfl rfl rfl rfl rfl ?_
 iterate 3 refine Az rfl rfl rfl rfl rfl rfl ?_
 obtain ⟨kr, du, H⟩ := bind_some H
 rcases kr with fp | sj
 rotate_left
 {
 refine Bn (Ii f ⟨bu, fo, bv, bw, bx, bz, c0, c1, c2, c3, c4, rfl, c5, c6, c7, c8, c9, ca, cb, cc, cd, ce, cf⟩ fi b7 du) rfl rfl rfl rfl rfl (by kernel_rfl) ?_
 intro p0 hu
 obtain rfl := so H
 exact Bm (C := cfg) (fn := Tryz.f28) ⟨rfl, hu⟩}
 refine Bk (CaO.val (Ii f ⟨bu, fo, bv, bw, bx, bz, c0, c1, c2, c3, c4, rfl, c5, c6, c7, c8, c9, ca, cb, cc, cd, ce, cf⟩ fi b7 du)) rfl rfl rfl rfl rfl (by obtain ⟨a9, ks⟩ := fp; rintro _ hv ⟨kt, rfl, cg, aa⟩; exact (Ad rfl (Ad rfl (Ad rfl (B7 rfl (Ag aa 0 rfl rfl rfl rfl) (Ad rfl (Ad rfl (Ad rfl (Ad rfl (Ad rfl A6)))))))))) ?_
 obtain ⟨a9, ks⟩ := fp
 rintro _ hv ⟨kt, rfl, cg, aa⟩
 refine A9 rfl rfl rfl rfl rfl (Ar rfl A8) ?_
 obtain ⟨ku, dv, H⟩ := bind_some H
 rcases ku with fq | sk
 rotate_left
 {
 refine Bn (Bg cg (Hp.pick aa 2 [1, 0] rfl) dv) rfl rfl rfl rfl rfl (by kernel_rfl) ?_
 intro p1 hw
 obtain rfl := so H
 exact Bm (C := cfg) (fn := Tryz.f28) ⟨rfl, (Hp.pick hw 12 [] rfl)⟩}
 refine Bk (CaO.val (Bg cg (Hp.pick aa 2 [1, 0] rfl) dv)) rfl rfl rfl rfl rfl (by obtain ⟨ab, kv⟩ := fq; rintro _ hx ⟨fr, rfl, fs, b8⟩; exact (Ad rfl (Ad rfl (Ad rfl (Ad rfl (B7 rfl (Ag b8 1 rfl rfl rfl rfl) (Ad rfl (Ad rfl (Ad rfl (Ad rfl (Ad rfl A6))))))))))) ?_
 obtain ⟨ab, kv⟩ := fq
 rintro _ hx ⟨fr, rfl, fs, b8⟩
 refine A9 (Bh (Am rfl rfl rfl rfl rfl (Am rfl rfl rfl rfl rfl (Am rfl rfl rfl rfl rfl Bc))) rfl (Ak rfl rfl (Ak rfl rfl (Ak rfl rfl rfl))) Tryz.underlying74 rfl rfl) rfl rfl rfl rfl (Ar rfl (Ar rfl A8)) ?_
 refine A9 (Cy (Am rfl rfl rfl rfl rfl Bc) rfl (Ak rfl rfl rfl) Tryz.underlying28 rfl rfl rfl rfl (by decide) rfl) rfl rfl rfl rfl (Ar rfl (Ar rfl A8)) ?_
 have kw : Sl rTAlias (.sl 3 [(vS i), (vI a9), (vI ab)] .ex) ([(Dt.mk i a9 ab)] : List Dt) := .inr ⟨_, _, rfl, (.cons (c := [(vS i), (vI a9), (vI ab)]) rfl .nil)⟩
 have hy := Dv b8 74 3 [(vS i), (vI a9), (vI ab)]
 obtain ⟨sl, h5, H⟩ := bind_some H
 refine Js hy 4 rfl c6 (New.of kw) h5 rfl rfl rfl rfl rfl rfl rfl Tryz.underlying28 rfl Tryz.underlying28 rfl rfl rfl rfl rfl rfl rfl rfl (fun a' σ' h' hp' => ((Ad rfl (Ad rfl (Ad rfl (Ad rfl (Ad rfl (Ad rfl (Bd (by kernel_rfl) (Ad rfl (Ad rfl (Ad rfl (Ad rfl (Ad rfl A6)))))))))))))) ?_
 intro kx p2 ch hz
 iterate 3 refine A9 rfl rfl rfl rfl rfl (Ar rfl (Ar rfl (Ar rfl A8))) ?_
 refine Gm hz 2 rfl (Af (ch.cells) rfl rfl (by exact on ch.isOne on0) rfl rfl) rfl rfl rfl rfl rfl (fun σ' hp' => ((Ad rfl (Ad rfl (Ad rfl (Ad rfl (Ad rfl (Ad rfl (Ad rfl (Ad rfl (Ad rfl (Bd (by kernel_rfl) (Ad rfl (Ad rfl (Ad rfl (Ad rfl (Ad rfl A6))))))))))))))))) ?_
 intro p3 i0
 refine Dh ?_
 obtain rfl := so H
 exact And.intro rfl ⟨fr, _, fs, ⟨bu, kx, bv, bw, bx, bz, c0, c1, c2, c3, c4, rfl, c5, ch, c7, c8, c9, ca, cb, cc, cd, ce, cf⟩, (Hp.pick i0 1 [] rfl), (fl rfl)⟩}
 {
 rcases fj with ⟨fk, fm⟩ | sm
 {
 intro x p4 p5 hJ
 obtain ⟨rfl, ax, bt, ky, kz, i1, i2⟩ := hJ
 obtain rfl := so H
 exact And.intro rfl ⟨ax, h, _, ky, f, kz, i1, (Fl.trans (G := [(6, (.ptr a 0))]) (fl rfl) i2)⟩}
 {
 intro x p6 p7 hJ
 obtain rfl := so H
 cases x <;> first | exact hJ | exact hJ.elim}}}
 {
 intro x p8 p9 hJ
 obtain rfl := so H
 cases x <;> first | exact hJ | exact hJ.elim}}}
 {
 have H := Av b6 H
 refine Ac (Aa (W (B9 rfl (Bi _ _)) rfl (V rfl (Ab ?_))))
 refine An (t := (decide (o = (ByteArray.mk #[102, 108, 97, 103])))) rfl (fun b9 => ?_) (fun b9 => ?_)
 {
 have H := Au b9 H
 obtain ⟨ft, i3, H⟩ := bind_some H
 refine A4 (J := (fun (v : LR ((List Ae) × TRd) (PR TRd Int)) (x : X) (φ : Fr) (s : St) => match v with | .out (fu, fv) => x = .normal ∧ (∃ (ay : A) (ci : (List A)), Sl A0 ay fu ∧ E2 h fv ci ∧ Hp s (.blk a (.cells [ay] 167) :: (C0 d ci R)) ∧ Fl [(6, (.ptr a 0))] φ) | .ret r => FinR cfg Tryz.f28 (De d R r) x φ s) ft) ?_ ?_
 {
 have H := i3
 refine C5 (by kernel_rfl) ?_
 iterate 5 refine Az rfl rfl rfl rfl rfl rfl ?_
 obtain ⟨l0, l1, sn, l2, l3, l4, l5, l6, l7, l8, l9, rfl, la, lb, cj, lc, ld, le, lf, lg, lh, li, lj⟩ := g
 refine Az (Ag b 2 rfl rfl rfl rfl) rfl rfl rfl rfl rfl ?_
 iterate 4 refine Az rfl rfl rfl rfl rfl rfl ?_
 refine Az (Ag b 2 rfl rfl rfl rfl) rfl rfl rfl rfl rfl (Az rfl rfl rfl rfl rfl rfl ?_)
 obtain ⟨lk, dw, H⟩ := bind_some H
 rcases lk with fw | sp
 rotate_left
 {
 refine Bn (A1 e b dw) rfl rfl rfl rfl rfl (by kernel_rfl) ?_
 intro pa i4
 obtain rfl := so H
 exact Bm (C := cfg) (fn := Tryz.f28) ⟨rfl, (Hp.pick i4 13 [] rfl)⟩}
 refine Bk (CaO.val (A1 e b dw)) rfl rfl rfl rfl rfl (by obtain ⟨ll, lm⟩ := fw; rintro _ i5 ⟨fx, rfl, fy, p⟩; exact (Ad rfl (B7 rfl (Ag p 2 rfl rfl rfl rfl) (Ad rfl (Ad rfl (Ad rfl (Ad rfl (B7 rfl (Ag p 2 rfl rfl rfl rfl) (Ad rfl (Ad rfl (Ad rfl (Ad rfl (Ad rfl A6))))))))))))) ?_
 obtain ⟨ll, lm⟩ := fw
 rintro _ i5 ⟨fx, rfl, fy, p⟩
 obtain ⟨ln, dx, H⟩ := bind_some H
 rcases ln with az | sq
 rotate_left
 {
 refine Bn (gisadl_fresh_74_75_ok cj p dx) rfl rfl rfl rfl rfl (by kernel_rfl) ?_
 intro pb i6
 obtain rfl := so H
 exact Bm (C := cfg) (fn := Tryz.f28) ⟨rfl, (Hp.pick i6 14 [] rfl)⟩}
 refine Bk (CaO.val (gisadl_fresh_74_75_ok cj p dx)) rfl rfl rfl rfl rfl (by rintro _ i7 ⟨rfl, ba⟩; exact (Ad rfl (Bd (by kernel_rfl) (Ad rfl (Ad rfl (Ad rfl (Ad rfl (B7 rfl (Ag ba 2 rfl rfl rfl rfl) (Ad rfl (Ad rfl (Ad rfl (Ad rfl (Ad rfl A6))))))))))))) ?_
 rintro _ i7 ⟨rfl, ba⟩
 refine A9 (Cy (Am rfl rfl rfl rfl rfl Bc) rfl (Ak rfl rfl rfl) Tryz.underlying29 rfl rfl rfl rfl (by decide) rfl) rfl rfl rfl rfl (Ar rfl (Ar rfl A8)) ?_
 have lo : Sl rS (.sl 1 [(vS az)] .ex) ([az] : List ByteArray) := .inr ⟨_, _, rfl, (.cons (c := [(vS az)]) rfl .nil)⟩
 have i8 := Dv ba 9 1 [(vS az)]
 obtain ⟨sr, h6, H⟩ := bind_some H
 refine Js i8 6 rfl cj (New.of lo) h6 rfl rfl rfl rfl rfl rfl rfl Tryz.underlying29 rfl Tryz.underlying29 rfl rfl rfl rfl rfl rfl rfl rfl (fun a' σ' h' hp' => ((Ad rfl (Ad rfl (Bd (by kernel_rfl) (Ad rfl (Ad rfl (Ad rfl (Ad rfl (Bd (by kernel_rfl) (Ad rfl (Ad rfl (Ad rfl (Ad rfl (Ad rfl A6))))))))))))))) ?_
 intro lp pc ck i9
 iterate 3 refine A9 rfl rfl rfl rfl rfl (Ar rfl (Ar rfl (Ar rfl A8))) ?_
 refine Gm i9 3 rfl (Af (ck.cells) rfl rfl (by exact on ck.isOne on0) rfl rfl) rfl rfl rfl rfl rfl (fun σ' hp' => ((Ad rfl (Ad rfl (Ad rfl (Ad rfl (Ad rfl (Bd (by kernel_rfl) (Ad rfl (Ad rfl (Ad rfl (Ad rfl (Bd (by kernel_rfl) (Ad rfl (Ad rfl (Ad rfl (Ad rfl (Ad rfl A6)))))))))))))))))) ?_
 intro pd ia
 refine Dh ?_
 obtain rfl := so H
 exact And.intro rfl ⟨fx, _, fy, ⟨l0, l1, lp, l2, l3, l4, l5, l6, l7, l8, l9, rfl, la, lb, ck, lc, ld, le, lf, lg, lh, li, lj⟩, (Hp.pick ia 3 [1] rfl), (fl rfl)⟩}
 {
 rcases ft with ⟨fu, fv⟩ | ss
 {
 intro x pe pf hJ
 obtain ⟨rfl, ay, ci, lq, lr, ib, ic⟩ := hJ
 obtain rfl := so H
 exact And.intro rfl ⟨ay, h, _, lq, f, lr, ib, (Fl.trans (G := [(6, (.ptr a 0))]) (fl rfl) ic)⟩}
 {
 intro x pg ph hJ
 obtain rfl := so H
 cases x <;> first | exact hJ | exact hJ.elim}}}
 {
 have H := Av b9 H
 refine Ac (Aa (W (B9 rfl (Bi _ _)) rfl (V rfl (Ab ?_))))
 refine An (t := (decide (o = (ByteArray.mk #[99, 108, 97, 115, 115])))) rfl (fun bb => ?_) (fun bb => ?_)
 {
 have H := Au bb H
 refine Aa (V rfl (V rfl ?_))
 obtain ⟨ls, dy, H⟩ := bind_some H
 rcases ls with lt | st
 {
 refine Ai (gr_readClass_f76_ok f g e (Hp.pick b 14 [2, 3, 4, 5, 6, 7, 8, 9, 10, 11, 12, 13, 0, 1] rfl) dy) rfl rfl rfl rfl ?_
 obtain ⟨su, sv⟩ := lt
 rintro _ pi ⟨sw, lu, rfl, lv, lw, id⟩
 refine Ab ?_
 obtain rfl := so H
 exact And.intro rfl ⟨lu, h, _, lw, f, lv, (Hp.pick id 14 [1, 0, 2, 3, 4, 5, 6, 7, 8, 9, 10, 11, 12] rfl), (fl rfl)⟩}
 {
 refine Aj (gr_readClass_f76_ok f g e (Hp.pick b 14 [2, 3, 4, 5, 6, 7, 8, 9, 10, 11, 12, 13, 0, 1] rfl) dy) rfl rfl ?_
 intro pj ie
 obtain rfl := so H
 exact Fin.pan (C := cfg) (fn := Tryz.f28) ⟨rfl, (Hp.pick ie 1 [] rfl)⟩}}
 {
 have H := Av bb H
 refine Ac (Aa (W (B9 rfl (Bi _ _)) rfl (V rfl (Ab ?_))))
 refine An (t := (decide (o = (ByteArray.mk #[102, 111, 114, 109])))) rfl (fun bc => ?_) (fun bc => ?_)
 {
 have H := Au bc H
 refine Aa (V rfl (V rfl ?_))
 obtain ⟨lx, dz, H⟩ := bind_some H
 rcases lx with ly | sx
 {
 refine Ai (gr_readForm_f77_ok f g e (Hp.pick b 14 [2, 3, 4, 5, 6, 7, 8, 9, 10, 11, 12, 13, 0, 1] rfl) dz) rfl rfl rfl rfl ?_
 obtain ⟨sy, sz⟩ := ly
 rintro _ pk ⟨lz, t0, m0, rfl, m1, m2, m3, ig⟩
 refine Ab ?_
 obtain rfl := so H
 exact And.intro rfl ⟨m0, lz, _, m3, m1, m2, (Hp.pick ig 14 [1, 0, 2, 3, 4, 5, 6, 7, 8, 9, 10, 11, 12] rfl), (fl rfl)⟩}
 {
 refine Aj (gr_readForm_f77_ok f g e (Hp.pick b 14 [2, 3, 4, 5, 6, 7, 8, 9, 10, 11, 12, 13, 0, 1] rfl) dz) rfl rfl ?_
 intro pl ih
 obtain rfl := so H
 exact Fin.pan (C := cfg) (fn := Tryz.f28) ⟨rfl, (Hp.pick ih 1 [] rfl)⟩}}
 {
 have H := Av bc H
 refine Ac (Aa (W (B9 rfl (Bi _ _)) rfl (V rfl (Ab ?_))))
 refine An (t := (decide (o = (ByteArray.mk #[109, 97, 99, 114, 111])))) rfl (fun bd => ?_) (fun bd => ?_)
 {
 have H := Au bd H
 refine Aa (V rfl (V rfl ?_))
 obtain ⟨m4, e0, H⟩ := bind_some H
 rcases m4 with m5 | t1
 {
 refine Ai (gr_readMacro_f78_ok f g e (Hp.pick b 14 [2, 3, 4, 5, 6, 7, 8, 9, 10, 11, 12, 13, 0, 1] rfl) e0) rfl rfl rfl rfl ?_
 obtain ⟨t2, t3⟩ := m5
 rintro _ pm ⟨t4, m6, rfl, m7, m8, ii⟩
 refine Ab ?_
 obtain rfl := so H
 exact And.intro rfl ⟨m6, h, _, m8, f, m7, (Hp.pick ii 14 [1, 0, 2, 3, 4, 5, 6, 7, 8, 9, 10, 11, 12] rfl), (fl rfl)⟩}
 {
 refine Aj (gr_readMacro_f78_ok f g e (Hp.pick b 14 [2, 3, 4, 5, 6, 7, 8, 9, 10, 11, 12, 13, 0, 1] rfl) e0) rfl rfl ?_
 intro pn ij
 obtain rfl := so H
 exact Fin.pan (C := cfg) (fn := Tryz.f28) ⟨rfl, (Hp.pick ij 1 [] rfl)⟩}}
 {
 have H := Av bd H
 refine Ac (Aa (W (B9 rfl (Bi _ _)) rfl (V rfl (Ab ?_))))
 refine An (t := (decide (o = (ByteArray.mk #[114, 101, 108])))) rfl (fun be => ?_) (fun be => ?_)
 {
 have H := Au be H
 refine Aa (V rfl (V rfl ?_))
 obtain ⟨m9, e1, H⟩ := bind_some H
 rcases m9 with ma | t5
 {
 refine Ai (gr_readRel_f79_ok f g e (Hp.pick b 14 [2, 3, 4, 5, 6, 7, 8, 9, 10, 11, 12, 13, 0, 1] rfl) e1) rfl rfl rfl rfl ?_
 obtain ⟨t6, t7⟩ := ma
 rintro _ po ⟨t8, mb, rfl, mc, md, ik⟩
 refine Ab ?_
 obtain rfl := so H
 exact And.intro rfl ⟨mb, h, _, md, f, mc, (Hp.pick ik 14 [1, 0, 2, 3, 4, 5, 6, 7, 8, 9, 10, 11, 12] rfl), (fl rfl)⟩}
 {
 refine Aj (gr_readRel_f79_ok f g e (Hp.pick b 14 [2, 3, 4, 5, 6, 7, 8, 9, 10, 11, 12, 13, 0, 1] rfl) e1) rfl rfl ?_
 intro pp il
 obtain rfl := so H
 exact Fin.pan (C := cfg) (fn := Tryz.f28) ⟨rfl, (Hp.pick il 1 [] rfl)⟩}}
 {
 have H := Av be H
 refine Ac (Aa (W (B9 rfl (Bi _ _)) rfl (V rfl (Ab ?_))))
 refine An (t := (decide (o = (ByteArray.mk #[117, 115, 101])))) rfl (fun bf => ?_) (fun bf => ?_)
 {
 have H := Au bf H
 refine Aa (V rfl (V rfl ?_))
 obtain ⟨me, e2, H⟩ := bind_some H
 rcases me with mf | t9
 {
 refine Ai (gr_readUse_f80_ok f g e (Hp.pick b 14 [2, 3, 4, 5, 6, 7, 8, 9, 10, 11, 12, 13, 0, 1] rfl) e2) rfl rfl rfl rfl ?_
 obtain ⟨ta, tb⟩ := mf
 rintro _ pq ⟨tc, mg, rfl, mh, mi, im⟩
 refine Ab ?_
 obtain rfl := so H
 exact And.intro rfl ⟨mg, h, _, mi, f, mh, (Hp.pick im 14 [1, 0, 2, 3, 4, 5, 6, 7, 8, 9, 10, 11, 12] rfl), (fl rfl)⟩}
 {
 refine Aj (gr_readUse_f80_ok f g e (Hp.pick b 14 [2, 3, 4, 5, 6, 7, 8, 9, 10, 11, 12, 13, 0, 1] rfl) e2) rfl rfl ?_
 intro pr io
 obtain rfl := so H
 exact Fin.pan (C := cfg) (fn := Tryz.f28) ⟨rfl, (Hp.pick io 1 [] rfl)⟩}}
 {
 have H := Av bf H
 refine Ac (Aa (W (B9 rfl (Bi _ _)) rfl (V rfl (Ab ?_))))
 refine An (t := (decide (o = (ByteArray.mk #[114, 101, 108, 97, 120])))) rfl (fun bg => ?_) (fun bg => ?_)
 {
 have H := Au bg H
 refine Ac (Aa ?_)
 iterate 4 refine V rfl ?_
 obtain ⟨q, u, w, y, z, a0, a1, ac, a2, a3, a4, rfl, ad, ae, af, ag, j, ah, ai, a5, aj, ak, al⟩ := g
 refine W (Ag b 2 rfl rfl rfl rfl) rfl (W (Cj a5 rfl rfl rfl rfl rfl Tryz.underlying34) rfl (V rfl ?_))
 obtain ⟨mj, e3, H⟩ := bind_some H
 rcases mj with td | te
 {
 refine Ai (Ah b e3) rfl rfl rfl rfl ?_
 rintro _ ps ⟨rfl, e4⟩
 refine Ab (Ac (Aa (V rfl (V rfl ?_))))
 obtain ⟨mk, e5, H⟩ := bind_some H
 rcases mk with ml | tf
 {
 refine Ai (G1 f ⟨q, u, w, y, z, a0, a1, ac, a2, a3, a4, rfl, ad, ae, af, ag, j, ah, ai, a5, aj, ak, al⟩ e (Hp.pick e4 14 [2, 3, 4, 5, 6, 7, 8, 9, 10, 11, 12, 13, 0, 1] rfl) e5) rfl rfl rfl rfl ?_
 obtain ⟨a6, tg⟩ := ml
 rintro _ pt ⟨th, rfl, fz, bh⟩
 refine V rfl (Ab (Ac ?_))
 obtain ⟨g0, ip, H⟩ := bind_some H
 refine A4 (J := (fun (v : LR (Int × (List Ae)) (PR TRd Int)) (x : X) (φ : Fr) (s : St) => match v with | .out (k, g1) => x = .normal ∧ (∃ (cl : A), Sl A0 cl g1 ∧ Hp s (C0 d [(vS k8.f_Desc.f_Name), (vI k8.f_Desc.f_Order), q, u, w, y, z, a0, a1, ac, a2, a3, a4, h] (.blk a (.cells [cl] 167) :: R)) ∧ Fl [(0, (.ptr d 0)), (6, (.ptr a 0)), (10, (vI a6)), (11, (vI k))] φ) | .ret r => FinR cfg Tryz.f28 (De d R r) x φ s) g0) ?_ ?_
 {
 have H := ip
 refine C5 (by kernel_rfl) ?_
 iterate 4 refine Az rfl rfl rfl rfl rfl rfl ?_
 refine Az (Ag bh 0 rfl rfl rfl rfl) rfl rfl rfl rfl rfl (Az rfl rfl rfl rfl rfl rfl ?_)
 obtain ⟨mm, e6, H⟩ := bind_some H
 rcases mm with g2 | ti
 rotate_left
 {
 refine Bn (A1 fz (Hp.pick bh 2 [1, 0] rfl) e6) rfl rfl rfl rfl rfl (by kernel_rfl) ?_
 intro pu iq
 obtain rfl := so H
 exact Bm (C := cfg) (fn := Tryz.f28) ⟨rfl, (Hp.pick iq 13 [] rfl)⟩}
 refine Bk (CaO.val (A1 fz (Hp.pick bh 2 [1, 0] rfl) e6)) rfl rfl rfl rfl rfl (by obtain ⟨mn, mo⟩ := g2; rintro _ ir ⟨g3, rfl, g4, am⟩; exact (Ad rfl (B7 rfl (Ag am 1 rfl rfl rfl rfl) (Ad rfl (Ad rfl (Ad rfl (Ad rfl A6))))))) ?_
 obtain ⟨mn, mo⟩ := g2
 rintro _ ir ⟨g3, rfl, g4, am⟩
 obtain ⟨mp, e7, H⟩ := bind_some H
 rcases mp with tj | tk
 rotate_left
 {
 refine Bn (gisadl_place_82_83_ok j am e7) rfl rfl rfl rfl rfl (by kernel_rfl) ?_
 intro pv it
 obtain rfl := so H
 exact Bm (C := cfg) (fn := Tryz.f28) ⟨rfl, (Hp.pick it 14 [] rfl)⟩}
 refine Bk (CaO.val (gisadl_place_82_83_ok j am e7)) rfl rfl rfl rfl rfl (fun _ _ _ => (Ad rfl (Bd (by kernel_rfl) (Ad rfl (Ad rfl (Ad rfl (Ad rfl A6))))))) ?_
 rintro _ pw ⟨rfl, iu⟩
 refine A9 rfl rfl rfl rfl rfl (Ar rfl (Ar rfl A8)) (Dh ?_)
 obtain rfl := so H
 exact And.intro rfl ⟨g3, g4, (Hp.pick iu 14 [1, 2, 3, 4, 5, 6, 7, 8, 9, 10, 11, 12, 0] rfl), (fl rfl)⟩}
 {
 rcases g0 with ⟨k, g1⟩ | tl
 {
 intro x px py hJ
 obtain ⟨rfl, cl, g5, bi, iv⟩ := hJ
 refine Be (F := [(0, (.ptr d 0)), (6, (.ptr a 0)), (10, (vI a6)), (11, (vI k))]) iv ?_
 obtain ⟨g6, iw, H⟩ := bind_some H
 refine A4 (J := (fun (v : LR ((List Ae) × TRd) (PR TRd Int)) (x : X) (φ : Fr) (s : St) => match v with | .out (g7, g8) => x = .normal ∧ (∃ (b0 : A) (cm : (List A)), Sl A0 b0 g7 ∧ E2 h g8 cm ∧ Hp s (.blk a (.cells [b0] 167) :: (C0 d cm R)) ∧ Fl [(6, (.ptr a 0))] φ) | .ret r => FinR cfg Tryz.f28 (De d R r) x φ s) g6) ?_ ?_
 {
 have H := iw
 refine C5 (by kernel_rfl) ?_
 iterate 5 refine Az rfl rfl rfl rfl rfl rfl ?_
 refine Az (Ag bi 0 rfl rfl rfl rfl) rfl rfl rfl rfl rfl ?_
 iterate 4 refine Az rfl rfl rfl rfl rfl rfl ?_
 obtain ⟨mq, e8, H⟩ := bind_some H
 rcases mq with g9 | tm
 rotate_left
 {
 refine Bn (G1 f ⟨q, u, w, y, z, a0, a1, ac, a2, a3, a4, rfl, ad, ae, af, ag, j, ah, ai, a5, aj, ak, al⟩ g5 bi e8) rfl rfl rfl rfl rfl (by kernel_rfl) ?_
 intro pz ix
 obtain rfl := so H
 exact Bm (C := cfg) (fn := Tryz.f28) ⟨rfl, ix⟩}
 refine Bk (CaO.val (G1 f ⟨q, u, w, y, z, a0, a1, ac, a2, a3, a4, rfl, ad, ae, af, ag, j, ah, ai, a5, aj, ak, al⟩ g5 bi e8)) rfl rfl rfl rfl rfl (by obtain ⟨an, mr⟩ := g9; rintro _ iy ⟨ga, rfl, gb, bj⟩; exact (Ad rfl (Ad rfl (Ad rfl (Ad rfl (B7 rfl (Ag bj 0 rfl rfl rfl rfl) (Ad rfl (Ad rfl (Ad rfl (Ad rfl (Ad rfl A6))))))))))) ?_
 obtain ⟨an, mr⟩ := g9
 rintro _ iy ⟨ga, rfl, gb, bj⟩
 refine A9 (Bh (Am rfl rfl rfl rfl rfl (Am rfl rfl rfl rfl rfl (Am rfl rfl rfl rfl rfl Bc))) rfl (Ak rfl rfl (Ak rfl rfl (Ak rfl rfl rfl))) Tryz.underlying123 rfl rfl) rfl rfl rfl rfl (Ar rfl A8) ?_
 refine A9 (Cy (Am rfl rfl rfl rfl rfl Bc) rfl (Ak rfl rfl rfl) Tryz.underlying34 rfl rfl rfl rfl (by decide) rfl) rfl rfl rfl rfl (Ar rfl A8) ?_
 have ms : Sl rTRelaxed (.sl 3 [(vI a6), (vI k), (vI an)] .ex) ([(Id.mk a6 k an)] : List Id) := .inr ⟨_, _, rfl, (.cons (c := [(vI a6), (vI k), (vI an)]) rfl .nil)⟩
 have iz := Dv bj 123 3 [(vI a6), (vI k), (vI an)]
 obtain ⟨tn, h7, H⟩ := bind_some H
 refine Js iz 10 rfl a5 (New.of ms) h7 rfl rfl rfl rfl rfl rfl rfl Tryz.underlying34 rfl Tryz.underlying34 rfl rfl rfl rfl rfl rfl rfl rfl (fun a' σ' h' hp' => ((Ad rfl (Ad rfl (Ad rfl (Ad rfl (Ad rfl (Ad rfl (Bd (by kernel_rfl) (Ad rfl (Ad rfl (Ad rfl (Ad rfl (Ad rfl A6)))))))))))))) ?_
 intro mt q0 cn j0
 iterate 3 refine A9 rfl rfl rfl rfl rfl (Ar rfl (Ar rfl A8)) ?_
 refine Gm j0 1 rfl (Af (cn.cells) rfl rfl (by exact on cn.isOne on0) rfl rfl) rfl rfl rfl rfl rfl (fun σ' hp' => ((Ad rfl (Ad rfl (Ad rfl (Ad rfl (Ad rfl (Ad rfl (Ad rfl (Ad rfl (Ad rfl (Bd (by kernel_rfl) (Ad rfl (Ad rfl (Ad rfl (Ad rfl (Ad rfl A6))))))))))))))))) ?_
 intro q1 j1
 refine Dh ?_
 obtain rfl := so H
 exact And.intro rfl ⟨ga, _, gb, ⟨q, u, w, y, z, a0, a1, mt, a2, a3, a4, rfl, ad, ae, af, ag, j, ah, ai, cn, aj, ak, al⟩, (Hp.pick j1 3 [2, 1] rfl), (fl rfl)⟩}
 {
 rcases g6 with ⟨g7, g8⟩ | tp
 {
 intro x q2 q3 hJ
 obtain ⟨rfl, b0, cm, mu, mv, j2, j3⟩ := hJ
 obtain rfl := so H
 exact And.intro rfl ⟨b0, h, _, mu, f, mv, j2, (Fl.trans (G := [(6, (.ptr a 0))]) (fl rfl) j3)⟩}
 {
 intro x q4 q5 hJ
 obtain rfl := so H
 cases x <;> first | exact hJ | exact hJ.elim}}}
 {
 intro x q6 q7 hJ
 obtain rfl := so H
 cases x <;> first | exact hJ | exact hJ.elim}}}
 {
 refine Aj (G1 f ⟨q, u, w, y, z, a0, a1, ac, a2, a3, a4, rfl, ad, ae, af, ag, j, ah, ai, a5, aj, ak, al⟩ e (Hp.pick e4 14 [2, 3, 4, 5, 6, 7, 8, 9, 10, 11, 12, 13, 0, 1] rfl) e5) rfl rfl ?_
 intro q8 j4
 obtain rfl := so H
 exact Fin.pan (C := cfg) (fn := Tryz.f28) ⟨rfl, (Hp.pick j4 1 [] rfl)⟩}}
 {
 refine Aj (Ah b e3) rfl rfl ?_
 intro q9 j5
 obtain rfl := so H
 exact Fin.pan (C := cfg) (fn := Tryz.f28) ⟨rfl, (Hp.pick j5 14 [] rfl)⟩}}
 {
 have H := Av bg H
 refine Ac (Aa (W (B9 rfl (Bi _ _)) rfl (V rfl (Ab ?_))))
 refine An (t := (decide (o = (ByteArray.mk #[110, 117, 109])))) rfl (fun bk => ?_) (fun bk => ?_)
 {
 have H := Au bk H
 refine Ac ?_
 obtain ⟨gc, j6, H⟩ := bind_some H
 refine A4 (J := (fun (v : LR (ByteArray × (List Ae)) (PR TRd Int)) (x : X) (φ : Fr) (s : St) => match v with | .out (l, gd) => x = .normal ∧ (∃ (co : A), Sl A0 co gd ∧ Hp s (C0 d ha (.blk a (.cells [co] 167) :: R)) ∧ Fl [(0, (.ptr d 0)), (6, (.ptr a 0)), (12, (vS l))] φ) | .ret r => FinR cfg Tryz.f28 (De d R r) x φ s) gc) ?_ ?_
 {
 have H := j6
 refine C5 (by kernel_rfl) ?_
 iterate 4 refine Az rfl rfl rfl rfl rfl rfl ?_
 obtain ⟨tq, tr, ts, tt, tu, tv, tw, tx, ty, tz, u0, rfl, u1, u2, u3, u4, u5, u6, u7, u8, u9, ge, ua⟩ := g
 refine Az (Ag b 2 rfl rfl rfl rfl) rfl rfl rfl rfl rfl (Az rfl rfl rfl rfl rfl rfl ?_)
 obtain ⟨mw, e9, H⟩ := bind_some H
 rcases mw with gf | ub
 rotate_left
 {
 refine Bn (A1 e b e9) rfl rfl rfl rfl rfl (by kernel_rfl) ?_
 intro qa j7
 obtain rfl := so H
 exact Bm (C := cfg) (fn := Tryz.f28) ⟨rfl, (Hp.pick j7 13 [] rfl)⟩}
 refine Bk (CaO.val (A1 e b e9)) rfl rfl rfl rfl rfl (by obtain ⟨mx, my⟩ := gf; rintro _ j8 ⟨gg, rfl, gh, ao⟩; exact (Ad rfl (B7 rfl (Ag ao 2 rfl rfl rfl rfl) (Ad rfl (Ad rfl (Ad rfl (Ad rfl A6))))))) ?_
 obtain ⟨mx, my⟩ := gf
 rintro _ j8 ⟨gg, rfl, gh, ao⟩
 obtain ⟨mz, ea, H⟩ := bind_some H
 rcases mz with uc | ud
 rotate_left
 {
 refine Bn (gisadl_fresh_84_85_ok ge ao ea) rfl rfl rfl rfl rfl (by kernel_rfl) ?_
 intro qb j9
 obtain rfl := so H
 exact Bm (C := cfg) (fn := Tryz.f28) ⟨rfl, (Hp.pick j9 14 [] rfl)⟩}
 refine Bk (CaO.val (gisadl_fresh_84_85_ok ge ao ea)) rfl rfl rfl rfl rfl (fun _ _ _ => (Ad rfl (Bd (by kernel_rfl) (Ad rfl (Ad rfl (Ad rfl (Ad rfl A6))))))) ?_
 rintro _ qc ⟨rfl, ja⟩
 refine A9 rfl rfl rfl rfl rfl (Ar rfl (Ar rfl A8)) (Dh ?_)
 obtain rfl := so H
 exact And.intro rfl ⟨gg, gh, (Hp.pick ja 14 [2, 3, 4, 5, 6, 7, 8, 9, 10, 11, 12, 13, 0] rfl), (fl rfl)⟩}
 {
 rcases gc with ⟨l, gd⟩ | ue
 {
 intro x qd qe hJ
 obtain ⟨rfl, co, gi, bl, jb⟩ := hJ
 refine Be (F := [(0, (.ptr d 0)), (6, (.ptr a 0)), (12, (vS l))]) jb ?_
 obtain ⟨gj, jc, H⟩ := bind_some H
 refine A4 (J := (fun (v : LR ((List Ae) × TRd) (PR TRd Int)) (x : X) (φ : Fr) (s : St) => match v with | .out (gk, gl) => x = .normal ∧ (∃ (b1 : A) (cp : (List A)), Sl A0 b1 gk ∧ E2 h gl cp ∧ Hp s (.blk a (.cells [b1] 167) :: (C0 d cp R)) ∧ Fl [(6, (.ptr a 0))] φ) | .ret r => FinR cfg Tryz.f28 (De d R r) x φ s) gj) ?_ ?_
 {
 have H := jc
 refine C5 (by kernel_rfl) ?_
 iterate 5 refine Az rfl rfl rfl rfl rfl rfl ?_
 obtain ⟨n0, n1, n2, n3, n4, n5, n6, n7, n8, uf, n9, rfl, na, nb, nc, nd, ne, nf, ng, nh, ni, nj, nk⟩ := g
 refine Az (Ag bl 0 rfl rfl rfl rfl) rfl rfl rfl rfl rfl (Az rfl rfl rfl rfl rfl rfl (Az rfl rfl rfl rfl rfl rfl ?_))
 obtain ⟨nl, eb, H⟩ := bind_some H
 rcases nl with gm | ug
 rotate_left
 {
 refine Bn (Bj gi (Hp.pick bl 13 [12, 0, 1, 2, 3, 4, 5, 6, 7, 8, 9, 10, 11] rfl) eb) rfl rfl rfl rfl rfl (by kernel_rfl) ?_
 intro qf jd
 obtain rfl := so H
 exact Bm (C := cfg) (fn := Tryz.f28) ⟨rfl, (Hp.pick jd 12 [] rfl)⟩}
 refine Bk (CaO.val (Bj gi (Hp.pick bl 13 [12, 0, 1, 2, 3, 4, 5, 6, 7, 8, 9, 10, 11] rfl) eb)) rfl rfl rfl rfl rfl (by obtain ⟨ap, nm⟩ := gm; rintro _ je ⟨no, gn, rfl, np, go, bm⟩; exact (Ad rfl (Ad rfl (B7 rfl (Ag bm 1 rfl rfl rfl rfl) (Ad rfl (Ad rfl (Ad rfl (Ad rfl (Ad rfl A6))))))))) ?_
 obtain ⟨ap, nm⟩ := gm
 rintro _ je ⟨no, gn, rfl, np, go, bm⟩
 refine A9 rfl rfl rfl rfl rfl (Ar rfl A8) ?_
 refine A9 (Bh (Am rfl rfl rfl rfl rfl (Am rfl rfl rfl rfl rfl Bc)) rfl (Ak rfl rfl (Ak rfl rfl rfl)) Tryz.underlying127 rfl rfl) rfl rfl rfl rfl (Ar rfl A8) ?_
 refine A9 (Cy (Am rfl rfl rfl rfl rfl Bc) rfl (Ak rfl rfl rfl) Tryz.underlying36 rfl rfl rfl rfl (by decide) rfl) rfl rfl rfl rfl (Ar rfl A8) ?_
 have nq : Sl rTNamed (.sl 2 [(vS l), (vI ap.f_Num)] .ex) ([(Fx.mk l ap.f_Num)] : List Fx) := .inr ⟨_, _, rfl, (.cons (c := [(vS l), (vI ap.f_Num)]) rfl .nil)⟩
 have jf := Dv bm 127 2 [(vS l), (vI ap.f_Num)]
 obtain ⟨uh, h8, H⟩ := bind_some H
 refine Js jf 12 rfl nj (New.of nq) h8 rfl rfl rfl rfl rfl rfl rfl Tryz.underlying36 rfl Tryz.underlying36 rfl rfl rfl rfl rfl rfl rfl rfl (fun a' σ' h' hp' => ((Ad rfl (Ad rfl (Ad rfl (Ad rfl (Ad rfl (Bd (by kernel_rfl) (Ad rfl (Ad rfl (Ad rfl (Ad rfl (Ad rfl A6))))))))))))) ?_
 intro nr qg cq jg
 iterate 3 refine A9 rfl rfl rfl rfl rfl (Ar rfl (Ar rfl A8)) ?_
 refine Gm jg 2 rfl (Af (cq.cells) rfl rfl (by exact on cq.isOne on0) rfl rfl) rfl rfl rfl rfl rfl (fun σ' hp' => ((Ad rfl (Ad rfl (Ad rfl (Ad rfl (Ad rfl (Ad rfl (Ad rfl (Ad rfl (Bd (by kernel_rfl) (Ad rfl (Ad rfl (Ad rfl (Ad rfl (Ad rfl A6)))))))))))))))) ?_
 intro qh jh
 refine Dh ?_
 obtain rfl := so H
 exact And.intro rfl ⟨gn, _, go, ⟨n0, n1, n2, n3, n4, n5, n6, n7, n8, nr, n9, rfl, na, nb, nc, nd, ne, nf, ng, nh, ni, cq, nk⟩, (Hp.pick jh 1 [] rfl), (fl rfl)⟩}
 {
 rcases gj with ⟨gk, gl⟩ | ui
 {
 intro x qi qj hJ
 obtain ⟨rfl, b1, cp, ns, nt, ji, jj⟩ := hJ
 obtain rfl := so H
 exact And.intro rfl ⟨b1, h, _, ns, f, nt, ji, (Fl.trans (G := [(6, (.ptr a 0))]) (fl rfl) jj)⟩}
 {
 intro x qk ql hJ
 obtain rfl := so H
 cases x <;> first | exact hJ | exact hJ.elim}}}
 {
 intro x qm qn hJ
 obtain rfl := so H
 cases x <;> first | exact hJ | exact hJ.elim}}}
 {
 have H := Av bk H
 refine Ac (Aa (W (B9 rfl (Bi _ _)) rfl (V rfl (Ab ?_))))
 refine An (t := (decide (o = (ByteArray.mk #[114, 101, 103])))) rfl (fun bn => ?_) (fun bn => ?_)
 {
 have H := Au bn H
 refine Ac ?_
 obtain ⟨gp, jk, H⟩ := bind_some H
 refine A4 (J := (fun (v : LR (ByteArray × (List Ae)) (PR TRd Int)) (x : X) (φ : Fr) (s : St) => match v with | .out (m, gq) => x = .normal ∧ (∃ (cr : A), Sl A0 cr gq ∧ Hp s (C0 d ha (.blk a (.cells [cr] 167) :: R)) ∧ Fl [(0, (.ptr d 0)), (6, (.ptr a 0)), (13, (vS m))] φ) | .ret r => FinR cfg Tryz.f28 (De d R r) x φ s) gp) ?_ ?_
 {
 have H := jk
 refine C5 (by kernel_rfl) ?_
 iterate 4 refine Az rfl rfl rfl rfl rfl rfl ?_
 obtain ⟨uj, uk, ul, um, un, uo, up, uq, ur, us, ut, rfl, uu, uv, uw, ux, uy, uz, v0, v1, v2, v3, gr⟩ := g
 refine Az (Ag b 2 rfl rfl rfl rfl) rfl rfl rfl rfl rfl (Az rfl rfl rfl rfl rfl rfl ?_)
 obtain ⟨nu, ec, H⟩ := bind_some H
 rcases nu with gs | v4
 rotate_left
 {
 refine Bn (A1 e b ec) rfl rfl rfl rfl rfl (by kernel_rfl) ?_
 intro qo jl
 obtain rfl := so H
 exact Bm (C := cfg) (fn := Tryz.f28) ⟨rfl, (Hp.pick jl 13 [] rfl)⟩}
 refine Bk (CaO.val (A1 e b ec)) rfl rfl rfl rfl rfl (by obtain ⟨nv, nw⟩ := gs; rintro _ jm ⟨gt, rfl, gu, aq⟩; exact (Ad rfl (B7 rfl (Ag aq 2 rfl rfl rfl rfl) (Ad rfl (Ad rfl (Ad rfl (Ad rfl A6))))))) ?_
 obtain ⟨nv, nw⟩ := gs
 rintro _ jm ⟨gt, rfl, gu, aq⟩
 obtain ⟨nx, ed, H⟩ := bind_some H
 rcases nx with v5 | v6
 rotate_left
 {
 refine Bn (Hn gr aq ed) rfl rfl rfl rfl rfl (by kernel_rfl) ?_
 intro qp jn
 obtain rfl := so H
 exact Bm (C := cfg) (fn := Tryz.f28) ⟨rfl, (Hp.pick jn 14 [] rfl)⟩}
 refine Bk (CaO.val (Hn gr aq ed)) rfl rfl rfl rfl rfl (fun _ _ _ => (Ad rfl (Bd (by kernel_rfl) (Ad rfl (Ad rfl (Ad rfl (Ad rfl A6))))))) ?_
 rintro _ qq ⟨rfl, jo⟩
 refine A9 rfl rfl rfl rfl rfl (Ar rfl (Ar rfl A8)) (Dh ?_)
 obtain rfl := so H
 exact And.intro rfl ⟨gt, gu, (Hp.pick jo 14 [2, 3, 4, 5, 6, 7, 8, 9, 10, 11, 12, 13, 0] rfl), (fl rfl)⟩}
 {
 rcases gp with ⟨m, gq⟩ | v7
 {
 intro x qr qs hJ
 obtain ⟨rfl, cr, gv, bo, jp⟩ := hJ
 refine Be (F := [(0, (.ptr d 0)), (6, (.ptr a 0)), (13, (vS m))]) jp ?_
 obtain ⟨gw, jq, H⟩ := bind_some H
 refine A4 (J := (fun (v : LR ((List Ae) × TRd) (PR TRd Int)) (x : X) (φ : Fr) (s : St) => match v with | .out (gx, gy) => x = .normal ∧ (∃ (b2 : A) (cs : (List A)), Sl A0 b2 gx ∧ E2 h gy cs ∧ Hp s (.blk a (.cells [b2] 167) :: (C0 d cs R)) ∧ Fl [(6, (.ptr a 0))] φ) | .ret r => FinR cfg Tryz.f28 (De d R r) x φ s) gw) ?_ ?_
 {
 have H := jq
 refine C5 (by kernel_rfl) ?_
 iterate 5 refine Az rfl rfl rfl rfl rfl rfl ?_
 obtain ⟨ct, cu, cv, cw, cx, cy, cz, d0, d1, d2, gz, rfl, d3, d4, d5, d6, d7, d8, d9, da, db, dc, dd⟩ := g
 refine Az (Ag bo 0 rfl rfl rfl rfl) rfl rfl rfl rfl rfl ?_
 iterate 3 refine Az rfl rfl rfl rfl rfl rfl ?_
 obtain ⟨ny, ee, H⟩ := bind_some H
 rcases ny with h0 | v8
 rotate_left
 {
 refine Bn (Ii f ⟨ct, cu, cv, cw, cx, cy, cz, d0, d1, d2, gz, rfl, d3, d4, d5, d6, d7, d8, d9, da, db, dc, dd⟩ gv bo ee) rfl rfl rfl rfl rfl (by kernel_rfl) ?_
 intro qt jr
 obtain rfl := so H
 exact Bm (C := cfg) (fn := Tryz.f28) ⟨rfl, jr⟩}
 refine Bk (CaO.val (Ii f ⟨ct, cu, cv, cw, cx, cy, cz, d0, d1, d2, gz, rfl, d3, d4, d5, d6, d7, d8, d9, da, db, dc, dd⟩ gv bo ee)) rfl rfl rfl rfl rfl (by obtain ⟨ar, nz⟩ := h0; rintro _ js ⟨o0, rfl, de, au⟩; exact (Ad rfl (Ad rfl (Ad rfl (B7 rfl (Ag au 0 rfl rfl rfl rfl) (Ad rfl (Ad rfl (Ad rfl (Ad rfl (Ad rfl A6)))))))))) ?_
 obtain ⟨ar, nz⟩ := h0
 rintro _ js ⟨o0, rfl, de, au⟩
 refine A9 rfl rfl rfl rfl rfl (Ar rfl A8) ?_
 obtain ⟨o1, ef, H⟩ := bind_some H
 rcases o1 with h1 | v9
 rotate_left
 {
 refine Bn (Bg de (Hp.pick au 2 [1, 0] rfl) ef) rfl rfl rfl rfl rfl (by kernel_rfl) ?_
 intro qu jt
 obtain rfl := so H
 exact Bm (C := cfg) (fn := Tryz.f28) ⟨rfl, (Hp.pick jt 12 [] rfl)⟩}
 refine Bk (CaO.val (Bg de (Hp.pick au 2 [1, 0] rfl) ef)) rfl rfl rfl rfl rfl (by obtain ⟨av, o2⟩ := h1; rintro _ ju ⟨h2, rfl, h3, bp⟩; exact (Ad rfl (Ad rfl (Ad rfl (Ad rfl (B7 rfl (Ag bp 1 rfl rfl rfl rfl) (Ad rfl (Ad rfl (Ad rfl (Ad rfl (Ad rfl A6))))))))))) ?_
 obtain ⟨av, o2⟩ := h1
 rintro _ ju ⟨h2, rfl, h3, bp⟩
 refine A9 (Bh (Am rfl rfl rfl rfl rfl (Am rfl rfl rfl rfl rfl (Am rfl rfl rfl rfl rfl Bc))) rfl (Ak rfl rfl (Ak rfl rfl (Ak rfl rfl rfl))) Tryz.underlying74 rfl rfl) rfl rfl rfl rfl (Ar rfl (Ar rfl A8)) ?_
 refine A9 (Cy (Am rfl rfl rfl rfl rfl Bc) rfl (Ak rfl rfl rfl) Tryz.underlying28 rfl rfl rfl rfl (by decide) rfl) rfl rfl rfl rfl (Ar rfl (Ar rfl A8)) ?_
 have o3 : Sl rTAlias (.sl 3 [(vS m), (vI ar), (vI av)] .ex) ([(Dt.mk m ar av)] : List Dt) := .inr ⟨_, _, rfl, (.cons (c := [(vS m), (vI ar), (vI av)]) rfl .nil)⟩
 have jv := Dv bp 74 3 [(vS m), (vI ar), (vI av)]
 obtain ⟨va, h9, H⟩ := bind_some H
 refine Js jv 13 rfl dd (New.of o3) h9 rfl rfl rfl rfl rfl rfl rfl Tryz.underlying28 rfl Tryz.underlying28 rfl rfl rfl rfl rfl rfl rfl rfl (fun a' σ' h' hp' => ((Ad rfl (Ad rfl (Ad rfl (Ad rfl (Ad rfl (Ad rfl (Bd (by kernel_rfl) (Ad rfl (Ad rfl (Ad rfl (Ad rfl (Ad rfl A6)))))))))))))) ?_
 intro o4 qv df jw
 iterate 3 refine A9 rfl rfl rfl rfl rfl (Ar rfl (Ar rfl (Ar rfl A8))) ?_
 refine Gm jw 2 rfl (Af (df.cells) rfl rfl (by exact on df.isOne on0) rfl rfl) rfl rfl rfl rfl rfl (fun σ' hp' => ((Ad rfl (Ad rfl (Ad rfl (Ad rfl (Ad rfl (Ad rfl (Ad rfl (Ad rfl (Ad rfl (Bd (by kernel_rfl) (Ad rfl (Ad rfl (Ad rfl (Ad rfl (Ad rfl A6))))))))))))))))) ?_
 intro qw jx
 refine Dh ?_
 obtain rfl := so H
 exact And.intro rfl ⟨h2, _, h3, ⟨ct, cu, cv, cw, cx, cy, cz, d0, d1, d2, o4, rfl, d3, d4, d5, d6, d7, d8, d9, da, db, dc, df⟩, (Hp.pick jx 1 [] rfl), (fl rfl)⟩}
 {
 rcases gw with ⟨gx, gy⟩ | vb
 {
 intro x qx qy hJ
 obtain ⟨rfl, b2, cs, o5, o6, jy, jz⟩ := hJ
 obtain rfl := so H
 exact And.intro rfl ⟨b2, h, _, o5, f, o6, jy, (Fl.trans (G := [(6, (.ptr a 0))]) (fl rfl) jz)⟩}
 {
 intro x qz r0 hJ
 obtain rfl := so H
 cases x <;> first | exact hJ | exact hJ.elim}}}
 {
 intro x r1 r2 hJ
 obtain rfl := so H
 cases x <;> first | exact hJ | exact hJ.elim}}}
 {
 have H := Av bn H
 refine Aa ?_
 obtain ⟨o7, eg, H⟩ := bind_some H
 rcases o7 with vc | vd
 {
 refine Ai (Ah b eg) rfl rfl rfl rfl ?_
 rintro _ r3 ⟨rfl, k0⟩
 refine Ab ?_
 obtain rfl := so H
 exact And.intro rfl ⟨og, h, _, e, f, g, (Hp.pick k0 2 [0] rfl), (fl rfl)⟩}
 {
 refine Aj (Ah b eg) rfl rfl ?_
 intro r4 k1
 obtain rfl := so H
 exact Fin.pan (C := cfg) (fn := Tryz.f28) ⟨rfl, (Hp.pick k1 14 [] rfl)⟩}}}}}}}}}}}}}}
 {
 rcases ek with ⟨el, em⟩ | ve
 {
 intro x r5 r6 hJ
 obtain ⟨rfl, bq, aw, br, h4, o8, o9, eh, k2⟩ := hJ
 refine Be (F := [(6, (.ptr a 0))]) k2 (Aa (V rfl ?_))
 obtain ⟨oa, ei, H⟩ := bind_some H
 rcases oa with vf | vg
 {
 refine Ai (Gk h4 eh ei) rfl rfl rfl rfl ?_
 rintro _ r7 ⟨rfl, k3⟩
 refine Ab ?_
 obtain rfl := so H
 refine Fin.mkN (C := cfg) (fn := Tryz.f28) rfl ?_
 exact ⟨aw, _, rfl, o8, o9, (Hp.pick k3 1 [] rfl)⟩}
 {
 refine Aj (Gk h4 eh ei) rfl rfl ?_
 intro r8 k4
 obtain rfl := so H
 exact Fin.pan (C := cfg) (fn := Tryz.f28) ⟨rfl, (Hp.pick k4 12 [] rfl)⟩}}
 {
 intro x r9 ra hJ
 obtain rfl := so H
 cases x <;> first | exact hJ | exact hJ.elim}}}
 {
 refine Aj (Ah hc dj) rfl rfl ?_
 intro rb k5
 obtain rfl := so H
 exact Fin.pan (C := cfg) (fn := Tryz.f28) ⟨rfl, (Hp.pick k5 14 [] rfl)⟩}}
 {
 refine Aj (A1 ob hb di) rfl rfl ?_
 intro rc k6
 obtain rfl := so H
 exact Fin.pan (C := cfg) (fn := Tryz.f28) ⟨rfl, (Hp.pick k6 13 [] rfl)⟩}}
 {
 refine Aj (Bo oe ej dh) rfl rfl ?_
 intro rd k7
 obtain rfl := so H
 exact Fin.pan (C := cfg) (fn := Tryz.f28) ⟨rfl, (Hp.pick k7 13 [] rfl)⟩}

theorem gr_tried_f13_ok {n : Nat} {c : Nat} {q : TRd} {a : Ae} {i : Bool} {s : A} {t : (List A)} {j : A} {R : List Res} {σ : St} (u : isOne s = true) (v : E2 s q t) (k : Sl A0 j a.f_Kids) (hp : Hp σ (C0 c t R)) {r : (RL (Int × TRd) Int)} (H : H3 n q a i = some r) : Ca cfg 13 [(.ptr c 0), (.agg [(vI a.f_Kind), (vS a.f_Word), (vI a.f_Num), j]), (vB i)] σ (gr_tried_f13_post c R r) := by
 refine CaO.val ?_
 unfold H3 at H
 refine CaO.enterD (G := [(0, (.ptr c 0)), (1, (.agg [(vI a.f_Kind), (vS a.f_Word), (vI a.f_Num), j])), (2, (vB i))]) Tryz.func13 rfl rfl rfl rfl (Ac (Aa (Cb hp rfl (by exact on rfl (on rfl (on rfl (on k.isOne on0)))) rfl rfl rfl rfl rfl ?_)))
 intro a8 a1 l
 refine Cs (z := [(vI 0)]) l rfl rfl rfl rfl rfl ?_
 intro a9 a2 b
 refine Ab (Ac (Aa (V rfl (Eo.deferSeq rfl rfl rfl (Ac ?_)))))
 refine Aa (V rfl (W (Ag b 1 rfl rfl rfl rfl) rfl (V rfl ?_)))
 obtain ⟨w, d, H⟩ := bind_some H
 rcases w with aa | ab
 {
 refine Ai (gr_item_f28_ok u v k (Hp.pick b 14 [2, 3, 4, 5, 6, 7, 8, 9, 10, 11, 12, 13, 0, 1] rfl) d) rfl rfl rfl rfl ?_
 rintro _ a3 ⟨x, ac, rfl, y, a0, m⟩
 refine Ab (Ac (Aa (Al m 12 rfl (Af rfl rfl rfl rfl rfl rfl) rfl rfl rfl rfl rfl ?_)))
 intro a4 o
 refine Ab ?_
 obtain ⟨ad, g, H⟩ := bind_some H
 refine Aw ?_
 refine FinD.retD (Cd.imp (gr_tried_1_fin_ok (Hp.pick o 13 [12, 0, 1, 2, 3, 4, 5, 6, 7, 8, 9, 10, 11] rfl) g) ?_)
 obtain rfl := so H
 rintro a5 _ ⟨rfl, e⟩
 refine ⟨rfl, _, (Bf e 0 rfl rfl rfl rfl), ?_⟩
 exact ⟨x, _, rfl, y, a0, (Hp.pick e 14 [1, 2, 3, 4, 5, 6, 7, 8, 9, 10, 11, 12] rfl)⟩}
 {
 refine Aj (gr_item_f28_ok u v k (Hp.pick b 14 [2, 3, 4, 5, 6, 7, 8, 9, 10, 11, 12, 13, 0, 1] rfl) d) rfl rfl ?_
 intro a6 p
 obtain ⟨ae, h, H⟩ := bind_some H
 refine FinD.panD (Cd.imp (gr_tried_1_pan_ok p h) ?_)
 obtain rfl := so H
 rintro a7 _ ⟨rfl, f⟩
 refine ⟨rfl, _, (Bf f 0 rfl rfl rfl rfl), ?_⟩
 exact ⟨rfl, (Hp.pick f 2 [] rfl)⟩}

theorem gisadl_Parse_ok {n : Nat} {av : ByteArray} {R : List Res} {σ : St} (hp : Hp σ R) {r : (H2 × Int × Int)} (H : I2 n av = some r) : Ca cfg 8 [(vS av)] σ (gisadl_Parse_post R r) := by
 unfold I2 at H
 refine Ca.enterL (G := [(0, (vS av))]) Tryz.func8 rfl rfl rfl rfl (Ac (Aa (Cs (z := [(vS (ByteArray.mk #[])), (vI 0), A5, A5, A5, A5, A5, A5, A5, A5, A5, A5, A5]) hp rfl rfl rfl rfl rfl ?_)))
 intro a c0 aw
 refine V rfl (V rfl (Ab (Ac (Aa (V rfl ?_)))))
 obtain ⟨bi, an, H⟩ := bind_some H
 refine A2 rfl rfl rfl rfl (gsexp_Parse_ok aw an) ?_
 obtain ⟨b, cc, bj⟩ := bi
 rintro _ c1 ⟨a4, rfl, a5, j⟩
 iterate 7 refine V rfl ?_
 refine Ab (Ac (Ac (Aa (V rfl (V rfl ?_)))))
 refine Ab ?_
 refine An (t := (bj != 0)) rfl (fun k => ?_) (fun k => ?_)
 {
 have H := Au k H
 refine Ac (Aa ?_)
 refine W (Bh Bc rfl rfl Tryz.underlying38 rfl rfl) rfl ?_
 refine V rfl (V rfl (Al j 1 rfl (Af rfl rfl rfl rfl rfl rfl) rfl rfl rfl rfl rfl ?_))
 intro c2 a6
 refine V rfl (V rfl (Ab ?_))
 obtain rfl := so H
 refine Aw (Ret.mk' (Bf a6 1 rfl rfl rfl (resA_tmp rfl (resA_tmp rfl rfl))) ?_)
 exact ⟨A5, A5, A5, A5, A5, A5, A5, A5, A5, A5, A5, rfl, Sl.nil, Sl.nil, Sl.nil, Sl.nil, Sl.nil, Sl.nil, Sl.nil, Sl.nil, Sl.nil, Sl.nil, Sl.nil, (Hp.pick (As (As (As (As (As (As (As (As (As (As (As a6 72) 74) 9) 78) 50) 82) 119) 123) 115) 127) 74) 13 [10, 0, 8, 7, 6, 5, 4, 3, 2, 1, 9] rfl)⟩}
 {
 have H := Av k H
 refine A7 (Ac (Ac (Aa (V rfl (W (Cj a5 rfl rfl rfl rfl rfl Tryz.underlying23) rfl ?_)))))
 refine V rfl (Ab ?_)
 refine An (t := (((b.length : Nat) : Int) == 0)) rfl (fun l => ?_) (fun l => ?_)
 {
 have H := Au l H
 refine Ac (Aa ?_)
 refine W (Bh Bc rfl rfl Tryz.underlying38 rfl rfl) rfl ?_
 refine Al j 1 rfl (Af rfl rfl rfl rfl rfl rfl) rfl rfl rfl rfl rfl ?_
 intro c3 a7
 refine V rfl (V rfl (Ab ?_))
 obtain rfl := so H
 refine Aw (Ret.mk' (Bf a7 1 rfl rfl rfl (resA_tmp rfl (resA_tmp rfl rfl))) ?_)
 exact ⟨A5, A5, A5, A5, A5, A5, A5, A5, A5, A5, A5, rfl, Sl.nil, Sl.nil, Sl.nil, Sl.nil, Sl.nil, Sl.nil, Sl.nil, Sl.nil, Sl.nil, Sl.nil, Sl.nil, (Hp.pick (As (As (As (As (As (As (As (As (As (As (As a7 72) 74) 9) 78) 50) 82) 119) 123) 115) 127) 74) 13 [10, 0, 8, 7, 6, 5, 4, 3, 2, 1, 9] rfl)⟩}
 {
 have H := Av l H
 refine A7 (Ac (Aa ?_))
 refine W (Bh Bc rfl rfl Tryz.underlying62 rfl rfl) rfl ?_
 refine Cb j rfl rfl rfl rfl rfl rfl rfl ?_
 intro c c4 ax
 refine V rfl (Ab (Ac (Ac (Aa (V rfl ?_)))))
 refine W (Cj a5 rfl rfl rfl rfl rfl Tryz.underlying23) rfl (V rfl (Ab (Bb ?_)))
 obtain ⟨a8, ao, H⟩ := bind_some H
 refine A4 (J := _) (D8 (fl rfl) (Cw (f := (fun m (i : (Int × TRd) × (A × (List A))) => Fq n b m i.1.1 i.1.2)) (G := (fun (i : (Int × TRd) × (A × (List A))) => ([(2, (.ptr a 0)), (8, (.ptr c 0)), (29, a4), (30, (vI ((b.length : Nat) : Int))), (31, (vI i.1.1))] : List (Nat × A)))) (I := (fun (i : (Int × TRd) × (A × (List A))) (s : St) => isOne i.2.1 = true ∧ E2 i.2.1 i.1.2 i.2.2 ∧ Hp s (gTDesc a [(vS (ByteArray.mk #[])), (vI 0), A5, A5, A5, A5, A5, A5, A5, A5, A5, A5, A5] (C0 c i.2.2 (.app a4 64 :: R))))) (J := (fun (v : LR TRd (H2 × Int × Int)) (x : X) (φ : Fr) (s : St) => match v with | .out a9 => x = (.exit 0) ∧ (∃ (o : A) (p : (List A)), isOne o = true ∧ E2 o a9 p ∧ Hp s (gTDesc a [(vS (ByteArray.mk #[])), (vI 0), A5, A5, A5, A5, A5, A5, A5, A5, A5, A5, A5] (C0 c p R)) ∧ Fl [(2, (.ptr a 0)), (8, (.ptr c 0))] φ) | .ret r => x = .ret ∧ Ret cfg Tryz.f8 (gisadl_Parse_post R r) .ret φ s)) (fun _ => rfl) ?_ n ((0, (TRd.mk (H2.mk (ByteArray.mk #[]) 0 ([] : List Fz) ([] : List Dt) ([] : List ByteArray) ([] : List Ee) ([] : List F0) ([] : List Eq) ([] : List TUse) ([] : List Id) ([] : List TMacro) ([] : List Fx) ([] : List Dt)))), ((.v (.pointer none)), _)) _ a8 ⟨rfl, ⟨A5, A5, A5, A5, A5, A5, A5, A5, A5, A5, A5, rfl, Sl.nil, Sl.nil, Sl.nil, Sl.nil, Sl.nil, Sl.nil, Sl.nil, Sl.nil, Sl.nil, Sl.nil, Sl.nil⟩, (Hp.pick (As (As (As (As (As (As (As (As (As (As (As (As (As (As (As (As (As (As (As (As (As (As ax 72) 74) 9) 78) 50) 82) 119) 123) 115) 127) 74) 72) 74) 9) 78) 50) 82) 119) 123) 115) 127) 74) 25 [24, 21, 20, 19, 18, 17, 16, 15, 14, 13, 12, 11, 22, 10, 9, 8, 7, 6, 5, 4, 3, 2, 1, 0, 23] rfl)⟩ ao)) ?_
 {
 rintro m ⟨⟨u, bk⟩, ⟨bl, cd⟩⟩ bm v ⟨aa, ab, au⟩ H ih
 change Fq n b (m + 1) u bk = some v at H
 rw [Fq] at H
 change Ec _ _ _ [(2, (.ptr a 0)), (8, (.ptr c 0)), (29, a4), (30, (vI ((b.length : Nat) : Int))), (31, (vI u))] bm _
 refine Ac (Aa (V rfl (Ab (Ac ?_))))
 refine An (t := (decide (u < ((b.length : Nat) : Int)))) rfl (fun d => ?_) (fun d => ?_)
 {
 have H := Au d H
 refine A7 (Ac (Bb (Ac (Aa (V rfl ?_)))))
 obtain ⟨c5, hvx123, H⟩ := bind_some H
 refine F8 a5 hvx123 rfl rfl rfl Tryz.underlying23 rfl rfl rfl rfl ?_
 intro bn c6 _ hat126 hr129
 obtain ⟨c7, rfl, q⟩ := rTTree_un hr129
 refine W (Eb hat126 0 rfl rfl rfl rfl rfl rfl) rfl (Cs (z := [(vI 0), (vS (ByteArray.mk #[])), (vI 0), A5]) au rfl rfl rfl rfl rfl ?_)
 intro c8 bo ap
 refine V rfl (Al ap 0 rfl (Af rfl rfl rfl (by exact on rfl (on rfl (on rfl (on q.isOne on0)))) rfl rfl) rfl rfl rfl rfl rfl ?_)
 intro bp e
 refine Ab (Ac (Aa (V rfl (W (Ag e 0 rfl rfl rfl rfl) rfl (V rfl ?_)))))
 refine V rfl ?_
 obtain ⟨ay, w, H⟩ := bind_some H
 rcases ay with az | b0
 {
 refine A2 rfl rfl rfl rfl (gr_tried_f13_ok aa ab q (Hp.pick e 25 [13, 14, 15, 16, 17, 18, 19, 20, 21, 22, 23, 24, 0, 1, 2, 3, 4, 5, 6, 7, 8, 9, 10, 11, 12] rfl) w) ?_
 obtain ⟨b1, b2⟩ := az
 rintro _ bq ⟨b3, c9, rfl, b4, b5, y⟩
 refine V rfl (Ab (Ac (Aa (V rfl (V rfl ?_)))))
 refine Ab ?_
 refine An (t := (b1 != 0)) rfl (fun g => ?_) (fun g => ?_)
 {
 have H := Au g H
 refine Ac (Aa ?_)
 refine W (Bh Bc rfl rfl Tryz.underlying38 rfl rfl) rfl ?_
 refine V rfl (V rfl (Al y 13 rfl (Af rfl rfl rfl rfl rfl rfl) rfl rfl rfl rfl rfl ?_))
 intro br a0
 refine V rfl (V rfl (Ab ?_))
 obtain rfl := so H
 refine Aw ?_
 refine And.intro rfl (Ret.mk' (Bf a0 13 rfl rfl rfl (resA_tmp rfl (resA_tmp rfl rfl))) ?_)
 exact ⟨A5, A5, A5, A5, A5, A5, A5, A5, A5, A5, A5, rfl, Sl.nil, Sl.nil, Sl.nil, Sl.nil, Sl.nil, Sl.nil, Sl.nil, Sl.nil, Sl.nil, Sl.nil, Sl.nil, (Hp.pick a0 26 [14, 15, 16, 17, 18, 19, 20, 21, 22, 23, 24] rfl)⟩}
 {
 have H := Av g H
 refine A7 (Aa (V rfl (V rfl (Ab ?_))))
 exact Be (fl rfl) (ih (((IntKind.wrap .i64 (u + 1)), b2), (b3, _)) _ ⟨b4, b5, (Hp.pick y 25 [13, 14, 15, 16, 17, 18, 19, 20, 21, 22, 23, 24, 0, 1, 2, 3, 4, 5, 6, 7, 8, 9, 10, 11] rfl)⟩ H)}}
 {
 refine A2 rfl rfl rfl rfl (gr_tried_f13_ok aa ab q (Hp.pick e 25 [13, 14, 15, 16, 17, 18, 19, 20, 21, 22, 23, 24, 0, 1, 2, 3, 4, 5, 6, 7, 8, 9, 10, 11, 12] rfl) w) ?_
 rintro _ bs ⟨rfl, aq⟩
 refine V rfl (Ab (Ac (Aa (V rfl (V rfl ?_)))))
 refine Ab ?_
 refine An (t := (b0 != 0)) rfl (fun h => ?_) (fun h => ?_)
 {
 have H := Au h H
 refine Ac (Aa ?_)
 refine W (Bh Bc rfl rfl Tryz.underlying38 rfl rfl) rfl ?_
 refine V rfl (V rfl (Al aq 1 rfl (Af rfl rfl rfl rfl rfl rfl) rfl rfl rfl rfl rfl ?_))
 intro bt a1
 refine V rfl (V rfl (Ab ?_))
 obtain rfl := so H
 refine Aw ?_
 refine And.intro rfl (Ret.mk' (Bf a1 1 rfl rfl rfl (resA_tmp rfl (resA_tmp rfl rfl))) ?_)
 exact ⟨A5, A5, A5, A5, A5, A5, A5, A5, A5, A5, A5, rfl, Sl.nil, Sl.nil, Sl.nil, Sl.nil, Sl.nil, Sl.nil, Sl.nil, Sl.nil, Sl.nil, Sl.nil, Sl.nil, (Hp.pick a1 14 [2, 3, 4, 5, 6, 7, 8, 9, 10, 11, 12] rfl)⟩}
 {
 have H := Av h H
 cases H}}}
 {
 have H := Av d H
 refine D9 ?_
 obtain rfl := so H
 exact And.intro rfl ⟨bl, _, aa, ab, (Hp.pick au 25 [0, 1, 2, 3, 4, 5, 6, 7, 8, 9, 10, 11, 12, 13, 14, 15, 16, 17, 18, 19, 20, 21, 22, 23] rfl), (fl rfl)⟩}}
 {
 rcases a8 with a9 | ca
 {
 intro x bu bv hJ
 obtain ⟨rfl, o, p, cb, b6, a2, ar⟩ := hJ
 refine Be (F := [(2, (.ptr a 0)), (8, (.ptr c 0))]) ar (Ac (Aa ?_))
 iterate 3 refine V rfl ?_
 obtain ⟨b7, b8, b9, ba, bb, bc, bd, be, bf, bg, bh, rfl, ac, ad, ae, af, ag, ah, ai, aj, ak, al, am⟩ := b6
 refine W (Ag a2 12 rfl rfl rfl rfl) rfl (Al a2 0 rfl (Af rfl rfl rfl (by exact on rfl (on rfl (on ac.isOne (on ad.isOne (on ae.isOne (on af.isOne (on ag.isOne (on ah.isOne (on ai.isOne (on aj.isOne (on ak.isOne (on al.isOne (on am.isOne on0))))))))))))) rfl rfl) rfl rfl rfl rfl rfl ?_)
 intro bw a3
 refine V rfl (V rfl (Ab ?_))
 obtain rfl := so H
 refine Aw (Ret.mk' (Bf a3 0 rfl rfl rfl (resA_tmp rfl (resA_tmp rfl rfl))) ?_)
 exact ⟨b7, b8, b9, ba, bb, bc, bd, be, bf, bg, bh, rfl, ac, ad, ae, af, ag, ah, ai, aj, ak, al, am, (Hp.pick a3 13 [] rfl)⟩}
 {
 intro x bx bz hJ
 obtain rfl := so H
 obtain ⟨rfl, hr⟩ := hJ
 exact hr}}}}

theorem gdovetaillaw04_isadlAlive_ok {n : Nat} {R : List Res} {σ : St} (hp : Hp σ R) {r : Bool} (H : Er n = some r) : Ca cfg 6 [] σ (gdovetaillaw04_isadlAlive_post R r) := by
 unfold Er at H
 refine Ca.enterL (G := []) Tryz.func6 rfl rfl rfl rfl (Ac (Aa (V rfl (Ab (Ac ?_)))))
 refine Aa ?_
 obtain ⟨ai, p, H⟩ := bind_some H
 refine A2 rfl rfl rfl rfl (gisadl_Parse_ok hp p) ?_
 obtain ⟨b, bh, h⟩ := ai
 rintro _ aj ⟨ak, al, am, w, y, a0, a1, a2, a3, a4, a5, rfl, an, ao, a6, a7, f, a8, a9, aa, ab, ac, ad, q⟩
 iterate 4 refine V rfl ?_
 refine Cs (z := [(vS (ByteArray.mk #[])), (vI 0), A5, A5, A5, A5, A5, A5, A5, A5, A5, A5, A5]) q rfl rfl rfl rfl rfl ?_
 intro c ap t
 refine Al t 0 rfl (Af rfl rfl rfl (by exact on rfl (on rfl (on an.isOne (on ao.isOne (on a6.isOne (on a7.isOne (on f.isOne (on a8.isOne (on a9.isOne (on aa.isOne (on ab.isOne (on ac.isOne (on ad.isOne on0))))))))))))) rfl rfl) rfl rfl rfl rfl rfl ?_
 intro aq a
 refine V rfl (V rfl (Ab (Ac (Aa ?_))))
 iterate 3 refine V rfl ?_
 refine Gr 4 [(0, (vB false)), (1, (.ptr c 0)), (15, (vB ((h == 0) && (decide (b.f_Name = (ByteArray.mk #[116, 111, 121]))))))] ?_ ?_
 {
 cases ar : (h == 0)
 {
 iterate 3 refine Co rfl rfl rfl ?_
 refine V rfl ?_
 exact Ab (nn (fl rfl))}
 {
 refine V rfl (W (Ag a 0 rfl rfl rfl rfl) rfl (W (B9 rfl (Bi _ _)) rfl (V rfl ?_)))
 exact Ab (nn (fl rfl))}}
 {
 refine V rfl ?_
 refine Gr 5 [(0, (vB false)), (1, (.ptr c 0)), (21, (vB (((h == 0) && (decide (b.f_Name = (ByteArray.mk #[116, 111, 121])))) && (((b.f_Forms.length : Nat) : Int) == 1))))] ?_ ?_
 {
 cases au : ((h == 0) && (decide (b.f_Name = (ByteArray.mk #[116, 111, 121]))))
 {
 iterate 4 refine Co rfl rfl rfl ?_
 refine V rfl ?_
 exact Ab (nn (fl rfl))}
 {
 refine V rfl (W (Ag a 0 rfl rfl rfl rfl) rfl (W (Cj f rfl rfl rfl rfl rfl Tryz.underlying31) rfl (V rfl (V rfl ?_))))
 exact Ab (nn (fl rfl))}}
 {
 refine V rfl ?_
 obtain ⟨d, k, H⟩ := bind_some H
 refine H1 8 (J := (fun (d : Bool) (x : X) (φ : Fr) (s : St) => x = .normal ∧ (Hp s (gTDesc c [(vS b.f_Name), (vI b.f_Order), ak, al, am, w, y, a0, a1, a2, a3, a4, a5] R) ∧ Fl [(0, (vB false)), (1, (.ptr c 0)), (30, (vB d))] φ)) d) ?_ ?_
 {
 have H := k
 cases i : (((h == 0) && (decide (b.f_Name = (ByteArray.mk #[116, 111, 121])))) && (((b.f_Forms.length : Nat) : Int) == 1))
 {
 have H := Av i H
 iterate 7 refine Co rfl rfl rfl ?_
 refine V rfl (Ab ?_)
 obtain rfl := so H
 exact And.intro rfl ⟨a, (fl rfl)⟩}
 {
 have H := Au i H
 refine V rfl (W (Ag a 0 rfl rfl rfl rfl) rfl ?_)
 obtain ⟨b3, hvx57, H⟩ := bind_some H
 refine F8 f hvx57 rfl rfl rfl Tryz.underlying31 rfl rfl rfl rfl ?_
 rintro av b4 _ hat60 ⟨b5, b6, b7, rfl, ae, b8, b9⟩
 refine V rfl (W (Hx hat60 2 rfl rfl rfl rfl rfl) rfl (W (Cj ae rfl rfl rfl rfl rfl Tryz.underlying46) rfl (V rfl (V rfl (Ab ?_)))))
 obtain rfl := so H
 exact And.intro rfl ⟨a, (fl rfl)⟩}}
 {
 intro x aw ax hJ
 obtain ⟨rfl, e, u⟩ := hJ
 refine ⟨rfl, Eo.of (F := [(0, (vB false)), (1, (.ptr c 0)), (30, (vB d))]) u ?_⟩
 refine V rfl ?_
 obtain ⟨g, l, H⟩ := bind_some H
 refine H1 10 (J := (fun (g : Bool) (x : X) (φ : Fr) (s : St) => x = .normal ∧ (Hp s R ∧ Fl [(0, (vB false)), (41, (vB g))] φ)) g) ?_ ?_
 {
 have H := l
 cases j : d
 {
 have H := Av j H
 iterate 9 refine Co rfl rfl rfl ?_
 refine V rfl (Ab ?_)
 obtain rfl := so H
 exact And.intro rfl ⟨(Hp.pick e 12 [] rfl), (fl rfl)⟩}
 {
 have H := Au j H
 refine V rfl (W (Ag e 0 rfl rfl rfl rfl) rfl ?_)
 obtain ⟨ba, hvx91, H⟩ := bind_some H
 refine F8 f hvx91 rfl rfl rfl Tryz.underlying31 rfl rfl rfl rfl ?_
 rintro ay bb _ hat94 ⟨bc, bd, be, rfl, bf, bg, v⟩
 refine V rfl (W (Hx hat94 4 rfl rfl rfl rfl rfl) rfl ?_)
 obtain ⟨az, hvx101, H⟩ := bind_some H
 refine F8 v hvx101 rfl rfl rfl Tryz.underlying48 rfl rfl rfl rfl ?_
 intro af b0 _ hat104 hr107
 obtain ⟨b1, rfl, b2⟩ := rTTerm_un hr107
 refine V rfl (W (Hx hat104 0 rfl rfl rfl rfl rfl) rfl (V rfl (V rfl (Ab ?_))))
 obtain rfl := so H
 exact And.intro rfl ⟨(Hp.pick e 12 [] rfl), (fl rfl)⟩}}
 {
 intro x ag ah hJ
 obtain ⟨rfl, m, o⟩ := hJ
 refine ⟨rfl, Eo.of (F := [(0, (vB false)), (41, (vB g))]) o ?_⟩
 refine V rfl (Ab ?_)
 obtain rfl := so H
 refine Aw (Ret.mk rfl ?_)
 exact ⟨rfl, m⟩}}}}

theorem gdovetaillaw04_IsadlFirst_ok {n : Nat} {a : ByteArray} {e : ByteArray} {R : List Res} {σ : St} (hp : Hp σ R) {r : Bool} (H : Ft n a e = some r) : Ca cfg 4 [(vS a), (vS e)] σ (gdovetaillaw04_IsadlFirst_post R r) := by
 unfold Ft at H
 refine Ca.enterL (G := [(0, (vS a)), (1, (vS e))]) Tryz.func4 rfl rfl rfl rfl (Ac (Aa (V rfl (Ab (Ac ?_)))))
 refine Ac (Aa ?_)
 obtain ⟨bg, aa, H⟩ := bind_some H
 refine A2 rfl rfl rfl rfl (gdovetaillaw04_isadlAlive_ok hp aa) ?_
 rintro _ c0 ⟨rfl, a7⟩
 refine V rfl (Ab ?_)
 refine An (t := (!bg)) rfl (fun o => ?_) (fun o => ?_)
 {
 have H := Au o H
 refine Ac (Aa (V rfl (Ab ?_)))
 obtain rfl := so H
 refine Aw (Ret.mk rfl ?_)
 exact ⟨rfl, a7⟩}
 {
 have H := Av o H
 refine A7 (Ac (Aa (V rfl ?_)))
 obtain ⟨bh, ab, H⟩ := bind_some H
 refine A2 rfl rfl rfl rfl (gsexp_Parse_ok a7 ab) ?_
 obtain ⟨p, co, f⟩ := bh
 rintro _ bi ⟨q, rfl, s, ac⟩
 iterate 7 refine V rfl ?_
 refine Ab (Ac (Aa (V rfl ?_)))
 obtain ⟨am, y, H⟩ := bind_some H
 refine A2 rfl rfl rfl rfl (gsexp_Parse_ok ac y) ?_
 obtain ⟨a8, c1, b⟩ := am
 rintro _ bj ⟨u, rfl, an, v⟩
 iterate 7 refine V rfl ?_
 refine Ab (Ac (Aa (V rfl ?_)))
 obtain ⟨c2, a0, H⟩ := bind_some H
 refine W (op_catS a0 rfl rfl rfl) rfl (V rfl ?_)
 obtain ⟨i, a1, H⟩ := bind_some H
 refine W (op_catS a1 rfl rfl rfl) rfl (V rfl (Ab (Ac (Ac (Aa ?_)))))
 iterate 3 refine V rfl ?_
 refine Gr 3 [(0, (vS a)), (1, (vS e)), (5, q), (8, u), (11, (vS i)), (44, (vB ((f != 0) || (b != 0))))] ?_ ?_
 {
 cases bk : (f != 0)
 {
 iterate 3 refine V rfl ?_
 exact Ab (nn (fl rfl))}
 {
 refine Co rfl rfl rfl (Co rfl rfl rfl (V rfl ?_))
 exact Ab (nn (fl rfl))}}
 {
 refine V rfl ?_
 refine Gr 4 [(0, (vS a)), (1, (vS e)), (5, q), (8, u), (11, (vS i)), (49, (vB (((f != 0) || (b != 0)) || (decide (((a.size : Nat) : Int) ≥ 262143)))))] ?_ ?_
 {
 cases bl : ((f != 0) || (b != 0))
 {
 refine V rfl (W (Ic rfl rfl rfl rfl rfl Tryz.underlying9) rfl (V rfl (V rfl ?_)))
 exact Ab (nn (fl rfl))}
 {
 iterate 3 refine Co rfl rfl rfl ?_
 refine V rfl ?_
 exact Ab (nn (fl rfl))}}
 {
 refine V rfl ?_
 refine Gr 7 [(0, (vS a)), (5, q), (8, u), (11, (vS i)), (57, (vB ((((f != 0) || (b != 0)) || (decide (((a.size : Nat) : Int) ≥ 262143))) || (decide (((e.size : Nat) : Int) ≥ (IntKind.wrap .i64 (262143 - ((a.size : Nat) : Int))))))))] ?_ ?_
 {
 cases bm : (((f != 0) || (b != 0)) || (decide (((a.size : Nat) : Int) ≥ 262143)))
 {
 refine V rfl (W (Ic rfl rfl rfl rfl rfl Tryz.underlying9) rfl (V rfl (W (Ic rfl rfl rfl rfl rfl Tryz.underlying9) rfl ?_)))
 iterate 3 refine V rfl ?_
 exact Ab (nn (fl rfl))}
 {
 iterate 6 refine Co rfl rfl rfl ?_
 refine V rfl ?_
 exact Ab (nn (fl rfl))}}
 {
 refine Ab ?_
 refine An (t := ((((f != 0) || (b != 0)) || (decide (((a.size : Nat) : Int) ≥ 262143))) || (decide (((e.size : Nat) : Int) ≥ (IntKind.wrap .i64 (262143 - ((a.size : Nat) : Int))))))) rfl (fun g => ?_) (fun g => ?_)
 {
 have H := Au g H
 refine Ac (Aa (V rfl (Ab ?_)))
 obtain rfl := so H
 refine Aw (Ret.mk rfl ?_)
 exact ⟨rfl, (Hp.pick v 2 [] rfl)⟩}
 {
 have H := Av g H
 refine A7 (Ac (Ac (Aa (V rfl ?_))))
 obtain ⟨ao, a2, H⟩ := bind_some H
 refine A2 rfl rfl rfl rfl (gsexp_Parse_ok v a2) ?_
 obtain ⟨a9, c3, j⟩ := ao
 rintro _ bn ⟨c4, rfl, ap, w⟩
 iterate 7 refine V rfl ?_
 refine Ab (Ac (Aa ?_))
 iterate 3 refine V rfl ?_
 refine Gr 9 [(0, (vS a)), (5, q), (11, (vS i)), (14, (vI j)), (75, (vB ((j != 0) || (((a9.length : Nat) : Int) != (IntKind.wrap .i64 (((p.length : Nat) : Int) + ((a8.length : Nat) : Int)))))))] ?_ ?_
 {
 cases bo : (j != 0)
 {
 refine V rfl (W (Cj ap rfl rfl rfl rfl rfl Tryz.underlying23) rfl (V rfl (W (Cj s rfl rfl rfl rfl rfl Tryz.underlying23) rfl (V rfl (W (Cj an rfl rfl rfl rfl rfl Tryz.underlying23) rfl ?_)))))
 iterate 3 refine V rfl ?_
 exact Ab (nn (fl rfl))}
 {
 iterate 8 refine Co rfl rfl rfl ?_
 refine V rfl ?_
 exact Ab (nn (fl rfl))}}
 {
 refine Ab ?_
 refine An (t := ((j != 0) || (((a9.length : Nat) : Int) != (IntKind.wrap .i64 (((p.length : Nat) : Int) + ((a8.length : Nat) : Int)))))) rfl (fun h => ?_) (fun h => ?_)
 {
 have H := Au h H
 refine Ac (Aa ?_)
 iterate 3 refine V rfl ?_
 refine Ab ?_
 obtain rfl := so H
 refine Aw (Ret.mk rfl ?_)
 exact ⟨rfl, (Hp.pick w 3 [] rfl)⟩}
 {
 have H := Av h H
 refine A7 (Ac (Aa (V rfl ?_)))
 obtain ⟨aq, a3, H⟩ := bind_some H
 refine A2 rfl rfl rfl rfl (gisadl_Parse_ok w a3) ?_
 obtain ⟨c5, x, d⟩ := aq
 rintro _ bp ⟨c6, c7, c8, c9, ca, cb, cc, cd, ce, cf, cg, rfl, ar, au, av, aw, ax, ay, az, b0, b1, b2, b3, ad⟩
 iterate 4 refine V rfl ?_
 refine Cs (z := [(vS (ByteArray.mk #[])), (vI 0), A5, A5, A5, A5, A5, A5, A5, A5, A5, A5, A5]) ad rfl rfl rfl rfl rfl ?_
 intro ch bq ae
 refine Al ae 0 rfl (Af rfl rfl rfl (by exact on rfl (on rfl (on ar.isOne (on au.isOne (on av.isOne (on aw.isOne (on ax.isOne (on ay.isOne (on az.isOne (on b0.isOne (on b1.isOne (on b2.isOne (on b3.isOne on0))))))))))))) rfl rfl) rfl rfl rfl rfl rfl ?_
 intro br af
 refine V rfl (V rfl (Ab (Ac (Aa (V rfl ?_)))))
 obtain ⟨b4, a4, H⟩ := bind_some H
 refine A2 rfl rfl rfl rfl (gisadl_Parse_ok af a4) ?_
 obtain ⟨ci, k, l⟩ := b4
 rintro _ ba ⟨cj, ck, cl, cm, cn, bs, bt, bu, bv, bw, bx, rfl, b5, b6, b7, b8, b9, ag, ah, ai, aj, ak, al, a5⟩
 iterate 4 refine V rfl ?_
 refine Cs (z := [(vS (ByteArray.mk #[])), (vI 0), A5, A5, A5, A5, A5, A5, A5, A5, A5, A5, A5]) a5 rfl rfl rfl rfl rfl ?_
 intro bz bb a6
 refine Al a6 0 rfl (Af rfl rfl rfl (by exact on rfl (on rfl (on b5.isOne (on b6.isOne (on b7.isOne (on b8.isOne (on b9.isOne (on ag.isOne (on ah.isOne (on ai.isOne (on aj.isOne (on ak.isOne (on al.isOne on0))))))))))))) rfl rfl) rfl rfl rfl rfl rfl ?_
 intro bc m
 refine V rfl (V rfl (Ab (Ac (Ac (Aa ?_)))))
 iterate 3 refine V rfl ?_
 refine Gr 4 [(5, q), (16, (vI x)), (17, (vI d)), (19, (vI k)), (20, (vI l)), (96, (vB ((d != 0) && (decide (((p.length : Nat) : Int) > 0)))))] ?_ ?_
 {
 cases bd : (d != 0)
 {
 iterate 3 refine Co rfl rfl rfl ?_
 refine V rfl ?_
 exact Ab (nn (fl rfl))}
 {
 refine V rfl (W (Cj s rfl rfl rfl rfl rfl Tryz.underlying23) rfl (V rfl (V rfl ?_)))
 exact Ab (nn (fl rfl))}}
 {
 refine Ab ?_
 refine An (t := ((d != 0) && (decide (((p.length : Nat) : Int) > 0)))) rfl (fun c => ?_) (fun c => ?_)
 {
 have H := Au c H
 refine Ac (Aa ?_)
 iterate 4 refine V rfl ?_
 refine Gr 4 [(104, (vB ((k == x) && (l == d))))] ?_ ?_
 {
 cases be : (k == x)
 {
 iterate 3 refine Co rfl rfl rfl ?_
 refine V rfl ?_
 exact Ab (nn (fl rfl))}
 {
 iterate 4 refine V rfl ?_
 exact Ab (nn (fl rfl))}}
 {
 refine V rfl (Ab ?_)
 obtain rfl := so H
 refine Aw (Ret.mk rfl ?_)
 exact ⟨rfl, (Hp.pick m 27 [] rfl)⟩}}
 {
 have H := Av c H
 refine A7 (Ac (Aa ?_))
 iterate 3 refine V rfl ?_
 refine Gr 5 [(112, (vB ((l == 0) || (decide (k ≥ ((p.length : Nat) : Int))))))] ?_ ?_
 {
 cases bf : (l == 0)
 {
 refine V rfl (V rfl (W (Cj s rfl rfl rfl rfl rfl Tryz.underlying23) rfl (V rfl (V rfl ?_))))
 exact Ab (nn (fl rfl))}
 {
 iterate 4 refine Co rfl rfl rfl ?_
 refine V rfl ?_
 exact Ab (nn (fl rfl))}}
 {
 refine V rfl (Ab ?_)
 obtain rfl := so H
 refine Aw (Ret.mk rfl ?_)
 exact ⟨rfl, (Hp.pick m 27 [] rfl)⟩}}}}}}}}}}
end Go.DM
