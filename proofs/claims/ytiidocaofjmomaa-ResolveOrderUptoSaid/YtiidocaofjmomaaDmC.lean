/- This text proves the D-machine's operations sound against the model's: make, conversions, maps, calls, all operations. No condition. -/
import Derived.Test.YtiidocaofjmomaaDmB
import Derived.Lib.MakeNoZero
import Derived.Laws.Externs
namespace Go.DM
open Go Go.RowKit

theorem setRow_alloc (w : World) (us us2 : Array Value) (e : TypeId) (fr : Nat × Nat) : (w.alloc (.cells us e fr)).setRow w.heap.size us2 = w.alloc (.cells us2 e fr) := by
  obtain ⟨heap, tape, drawn, os, out⟩ := w
  simp only [World.setRow, World.alloc]
  congr 1
  apply Array.ext_getElem?
  intro n
  rw [Array.getElem?_modify, Array.getElem?_push, Array.getElem?_push]
  by_cases hn : n = heap.size
  · subst hn; simp
  · have : ¬ heap.size = n := fun e => hn e.symm
    simp [hn, this]
theorem setRow_swap (w : World) {c d : Nat} (h : c ≠ d) (us vs : Array Value) : (w.setRow c us).setRow d vs = (w.setRow d vs).setRow c us := by
  obtain ⟨heap, tape, drawn, os, out⟩ := w
  simp only [World.setRow]
  congr 1
  apply Array.ext_getElem?
  intro n
  simp only [Array.getElem?_modify]
  by_cases h1 : c = n
  · subst h1
    have : ¬ d = c := fun e => h e.symm
    simp [this]
  · by_cases h2 : d = n
    · simp [h1, h2]
    · simp [h1, h2]

/-- what is known behind an append of one element whose value comes later: the slice, its row, and how it stands when the value is laid -/
structure Late (w0 : World) (k : K) (σ2 : St) (sz m : Nat) (vus : List Value) (a : A) (w1 : World) (r : Value) : Prop where
  ex : ∃ (c o cap : Nat) (us : List Value) (e : TypeId) (lo hi : Nat) (k2 : K), r = .slice (some ⟨c, o, none⟩) (m + 1) cap ∧ w1.heap[c]? = some (.cells us.toArray e (lo, hi)) ∧ o + m * sz + sz ≤ us.length ∧ (lo = hi ∨ hi ≤ o + m * sz) ∧
    k2.w = w1.setRow c (us.take (o + m * sz) ++ vus ++ us.drop (o + m * sz + vus.length)).toArray ∧ Rel k2 a r ∧ Inv w0 σ2 k2 ∧ k.le k2 ∧ (∀ c', c' ≠ c → c' < k.w.heap.size → w1.heap[c']? = k.w.heap[c']?) ∧ (∀ b x y, σ2.blks.get b = some y → k.blk b = some x → x ≠ c) ∧ σ2.blks = σ2.blks

section
variable {P : Program} {w0 : World} {σ σ' : St} {k : K}

theorem late_new (hI : Inv w0 σ k) {ats : Array TypeId} {ty t t' e : TypeId} {d' : TypeDesc} {i : TypeInfo} {z : Value} {sv xv : Value} {s x : A} {old new vs : List A} {vus : List Value} {sLen sCap : Nat} {base : Option Addr} (h0 : ats[0]? = some t) (h1 : ats[1]? = some t')
    (hu : P.underlying t = some (.slice e)) (hu' : P.underlying t' = some d') (hd' : ∀ kd, d' ≠ .int kd) (hi : P.info? e = some i) (hz : i.zero = some z) (hzs : z.cells.size = i.size) (hsz : 0 < i.size) (hby : 0 < i.bytes)
    (hsv : sv = .slice base sLen sCap) (ho : appended σ i.size s = some old) (hs : Rel k s sv) (hol : old.length = sLen * i.size) (hn : appended σ i.size x = some new) (hx : Rel k x xv) (hnl : new.length = i.size) (hbig : sCap < sLen + 1)
    (hroom : (2 * (sLen + 1) + 1024) * i.bytes ≤ 281474976710656) (hv : RelL k vs vus) (hvl : vs.length = i.size) :
    ∃ w1 r, (Builtin.append_ ats ty #[sv, xv]).run P k.w = .ok r w1 ∧ Late w0 k (σ.tok e) i.size sLen vus (.sl i.size (old ++ vs) (.gr σ.nextT)) w1 r := by
  obtain ⟨hI1, hle1⟩ := hI.drew
  obtain ⟨n, us, l1, f1, r1, e1⟩ := appended_good (P := P) hI1 hsz (hx.mono hle1) hn
  obtain ⟨n', us', l1', f1', r1', e1'⟩ := appended_good (P := P) hI1 hsz (hs.mono hle1) ho
  have hn1 : n = 1 := by
    rw [hnl] at e1
    rcases Nat.lt_or_ge n 1 with h | h
    · have : n = 0 := by omega
      subst this; simp at e1; omega
    · rcases Nat.lt_or_ge 1 n with h2 | h2
      · have : 2 * i.size ≤ n * i.size := Nat.mul_le_mul_right _ h2
        omega
      · omega
  subst hn1
  have hn' : n' = sLen := by
    have := l1' k.w
    rw [hsv] at this
    simp [Builtin.lenOf] at this
    exact this.symm
  subst hn'
  have hcap : Builtin.nextslicecap (n' + 1) sCap * i.bytes ≤ 281474976710656 := Nat.le_trans (Nat.mul_le_mul_right _ (nextslicecap_le hbig)) hroom
  obtain ⟨cap, hcut, hcapge⟩ : ∃ cap, (Question.appendCap (n' + 1) sCap e).cut (k.w.tape k.w.drawn (Question.appendCap (n' + 1) sCap e)) = cap ∧ n' + 1 ≤ cap := ⟨_, rfl, by simp [Question.cut]⟩
  have hul : us.length = i.size := by rw [← r1.1]; exact hnl
  have hul' : us'.length = n' * i.size := by rw [← r1'.1]; exact e1'
  have hvul : vus.length = i.size := by rw [← hv.1]; exact hvl
  have hrun : (Builtin.append_ ats ty #[sv, xv]).run P k.w = .ok (.slice (some ⟨k.w.heap.size, 0, none⟩) (n' + 1) cap) ((k.w.drew).alloc (.cells (us'.toArray ++ us.toArray ++ Builtin.zeroCells z.cells (cap - (n' + 1))) e)) := by
    have f2 : (Builtin.firstCells i.size n' sv).run P k.w.drew = .ok us'.toArray k.w.drew := f1'
    have f3 : (Builtin.firstCells i.size 1 xv).run P k.w.drew = .ok us.toArray k.w.drew := f1
    subst hsv
    have hm : (match d' with | .int _ => true | _ => false) = false := by
      cases d' <;> first | rfl | exact absurd rfl (hd' _)
    have hb0 : ¬ i.bytes = 0 := by omega
    have hc1 : ¬ (Builtin.nextslicecap (n' + 1) sCap * i.bytes > 2 ^ 48) := by
      have : (2 : Nat) ^ 48 = 281474976710656 := by decide
      omega
    have hq : (Question.appendCap (n' + 1) sCap e).forced = false := rfl
    simp only [Builtin.append_, h0, h1, List.getElem?_toArray, List.getElem?_cons_zero, List.getElem?_cons_succ, Sem.run_bind, run_underlying hu, run_underlying hu', Result.andThen_ok, run_sizeOf' hi, Sem.run_pure]
    simp only [Bool.false_eq_true, if_false, Sem.run_bind, l1, Result.andThen_ok, Sem.run_ite]
    rw [if_neg (by omega)]
    simp only [run_typeInfo' hi, Result.andThen_ok, hb0, or_self, and_false, if_false]
    rw [if_neg hc1]
    simp only [Sem.run_bind, Result.andThen_ok, run_choose, hq, Bool.false_eq_true, if_false, hcut, run_askRoom, World.drew_eq, f2, f3, Bool.not_false, if_true, run_zeroValue' hi hz, newRow, run_newObj, Sem.run_pure, World.alloc_eq]
    rfl
  have hspace : (n' + 1) * i.size ≤ cap * i.size := Nat.mul_le_mul_right _ hcapge
  rw [Nat.add_mul, Nat.one_mul] at hspace
  have hzc : (Builtin.zeroCells z.cells (cap - (n' + 1))).size = cap * i.size - (n' * i.size + i.size) := by
    rw [size_zeroCells, hzs, Nat.sub_mul, Nat.add_mul, Nat.one_mul]
  have hall : (us'.toArray ++ vus.toArray ++ Builtin.zeroCells z.cells (cap - (n' + 1))).size = cap * i.size := by
    rw [Array.size_append, Array.size_append, hzc]
    simp only [List.size_toArray]
    omega
  have hol2 : (old ++ vs).length = (n' + 1) * i.size := by rw [List.length_append, hol, hvl, Nat.add_mul, Nat.one_mul]
  obtain ⟨hI2, hle2⟩ := hI1.layTok (us := us'.toArray ++ vus.toArray ++ Builtin.zeroCells z.cells (cap - (n' + 1))) (e := e) (lo := 0) (hi := 0) (n := (old ++ vs).length) (by
    rw [hall, hol2]; exact Nat.mul_le_mul_right _ hcapge) (.inl rfl)
  refine ⟨_, _, hrun, ⟨k.w.heap.size, 0, cap, us' ++ us ++ (Builtin.zeroCells z.cells (cap - (n' + 1))).toList, e, 0, 0, _, rfl, ?_, ?_, .inl rfl, ?_, ?_, hI2, hle1.trans hle2, fun c' h1 h2 => ?_, fun b x y hb hx hc => ?_, rfl⟩⟩
  · have := heap_alloc_same k.w.drew (.cells (us'.toArray ++ us.toArray ++ Builtin.zeroCells z.cells (cap - (n' + 1))) e)
    rw [show k.w.drew.heap.size = k.w.heap.size from rfl] at this
    rw [this]
    simp
  · simp only [List.length_append, Array.length_toList, hul, hul', hzc]; omega
  · show k.w.drew.alloc _ = _
    rw [show k.w.heap.size = k.w.drew.heap.size from rfl, setRow_alloc]
    congr 3
    apply Array.ext'
    simp only [Array.toList_append]
    have h1 : (us' ++ us ++ (Builtin.zeroCells z.cells (cap - (n' + 1))).toList).take (0 + n' * i.size) = us' := by
      rw [List.append_assoc, Nat.zero_add, ← hul', List.take_left]
    have h2 : (us' ++ us ++ (Builtin.zeroCells z.cells (cap - (n' + 1))).toList).drop (0 + n' * i.size + vus.length) = (Builtin.zeroCells z.cells (cap - (n' + 1))).toList := by
      have : 0 + n' * i.size + vus.length = (us' ++ us).length := by rw [List.length_append, hul, hul', hvul]; omega
      rw [this, List.drop_left]
    rw [h1, h2]
  · have hr : RelL _ (old ++ vs) (us' ++ vus) := (r1'.append (hv.mono hle1)).mono hle2
    have hdiv : (old ++ vs).length / i.size = n' + 1 := by rw [hol2, Nat.mul_div_cancel _ hsz]
    have hblk : (k.w.drew.alloc (.cells (us'.toArray ++ vus.toArray ++ Builtin.zeroCells z.cells (cap - (n' + 1))) e)).heap[k.w.heap.size]? = some (.cells (us'.toArray ++ vus.toArray ++ Builtin.zeroCells z.cells (cap - (n' + 1))) e (0, 0)) := heap_alloc_same k.w.drew _
    suffices key : Rel ((k.wd k.w.drew).layTok (Obj.cells (us'.toArray ++ vus.toArray ++ Builtin.zeroCells z.cells (cap - (n' + 1))) e (0, 0)) (old ++ vs).length σ.nextT) (.sl i.size (old ++ vs) (.gr σ.nextT)) (.slice (some ⟨k.w.heap.size, 0, none⟩) ((old ++ vs).length / i.size) cap) by
      rw [hdiv] at key; exact key
    refine .sl (n := (old ++ vs).length) (fun j => (us' ++ vus).getD j undef) (if_pos rfl) (by omega) (fun j a ha => ?_) (fun j a ha => ?_) hsz (by rw [hdiv]; exact hol2) (by rw [hdiv]; exact hcapge) ⟨if_pos rfl, fun _ => .inr ⟨?_, _, _, _, hblk, ?_⟩⟩
    · have hj : j < (us' ++ vus).length := by rw [← hr.1]; exact lt_of_get ha
      rw [Nat.zero_add]
      refine (cell_get hblk).trans ?_
      rw [← Array.getElem?_toList]
      simp only [Array.toList_append]
      rw [List.getElem?_append_left hj]
      simp [List.getD, List.getElem?_eq_getElem hj]
    · obtain ⟨u, g1, g2⟩ := hr.get ha
      simp only [List.getD, g1, Option.getD_some]
      exact g2
    · rw [Nat.zero_add]; exact if_pos rfl
    · rw [Nat.zero_add]; exact hall
  · exact heap_alloc_ne (w := k.w.drew) h2
  · have := hI.dom b x hx; omega

theorem late_place (hI : Inv w0 σ k) {ats : Array TypeId} {ty t t' e : TypeId} {d' : TypeDesc} {i : TypeInfo} {xv : Value} {x : A} {new cs vs : List A} {vus : List Value} {id c o len cap : Nat} (h0 : ats[0]? = some t) (h1 : ats[1]? = some t')
    (hu : P.underlying t = some (.slice e)) (hu' : P.underlying t' = some d') (hd' : ∀ kd, d' ≠ .int kd) (hi : P.info? e = some i) (hsz : 0 < i.size) (hone : allOne new = true)
    (hs : Rel k (.sl i.size cs (.gr id)) (.slice (some ⟨c, o, none⟩) len cap)) (hn : appended σ i.size x = some new) (hx : Rel k x xv) (hnl : new.length = i.size) (hlt : len < cap) (ht : σ.toks.get id = some e) (hv : RelL k vs vus) (hvl : vs.length = i.size) :
    ∃ w1 r, (Builtin.append_ ats ty #[.slice (some ⟨c, o, none⟩) len cap, xv]).run P k.w = .ok r w1 ∧ Late w0 k ((σ.untok id).tok e) i.size len vus (.sl i.size (cs ++ vs) (.gr σ.nextT)) w1 r := by
  obtain ⟨n, us, l1, f1, r1, e1⟩ := appended_good (P := P) hI hsz hx hn
  have hn1 : n = 1 := by
    rw [hnl] at e1
    rcases Nat.lt_or_ge n 1 with h | h
    · have : n = 0 := by omega
      subst this; simp at e1; omega
    · rcases Nat.lt_or_ge 1 n with h2 | h2
      · have : 2 * i.size ≤ n * i.size := Nat.mul_le_mul_right _ h2
        omega
      · omega
  subst hn1
  obtain ⟨hl, c', fz, csv, lo, hi', g1, g2, g3, g4, g5⟩ := hI.tok id e ht
  obtain ⟨c0, i0, m, f, q0, hlen, q1, q2, q3, q4, q5, q6, q7, q8⟩ := hs.slFull (.inr (by simp))
  cases q0
  obtain ⟨p1, p2⟩ := q8
  rw [g1] at p1; cases p1
  rcases p2 hl with p2 | ⟨p2, cs2, e2, fr2, p3, p4⟩
  · rw [← hlen] at p2; omega
  rw [g3] at p2; cases p2
  rw [g4] at p3; cases p3
  have hm : cs.length = len * i.size := q6
  have hspace : (len + 1) * i.size ≤ cap * i.size := Nat.mul_le_mul_right _ hlt
  have hul : us.length = i.size := by rw [← r1.1]; exact hnl
  have hvul : vus.length = i.size := by rw [← hv.1]; exact hvl
  rw [Nat.add_mul, Nat.one_mul] at hspace
  have hst := run_stores P c e lo hi' us (o + len * i.size) 0 csv.toList k.w (by simpa using g4) (by simp only [Array.length_toList]; omega) (allOne_mem r1 hone) (by rw [hm] at g5; simpa using g5)
  simp only [Nat.add_zero] at hst
  have hmx : (match d' with | .int _ => true | _ => false) = false := by
    cases d' <;> first | rfl | exact absurd rfl (hd' _)
  have hrun : (Builtin.append_ ats ty #[.slice (some ⟨c, o, none⟩) len cap, xv]).run P k.w = .ok (.slice (some ⟨c, o, none⟩) (len + 1) cap) (k.w.setRow c (csv.toList.take (o + len * i.size) ++ us ++ csv.toList.drop (o + len * i.size + us.length)).toArray) := by
    simp only [Builtin.append_, h0, h1, List.getElem?_toArray, List.getElem?_cons_zero, List.getElem?_cons_succ, Sem.run_bind, run_underlying hu, run_underlying hu', Result.andThen_ok, run_sizeOf' hi, Sem.run_pure]
    simp only [Bool.false_eq_true, if_false, Sem.run_bind, l1, Result.andThen_ok, Sem.run_ite]
    rw [if_pos (by omega)]
    simp only [Bool.not_false, if_true, f1, Result.andThen_ok, addr_add, hst, Sem.run_pure]
  have hcl : (csv.toList.take (o + len * i.size)).length = o + len * i.size := by
    simp only [List.length_take, Array.length_toList]; omega
  have hsize : ∀ xs : List Value, xs.length = i.size → (csv.toList.take (o + len * i.size) ++ xs ++ csv.toList.drop (o + len * i.size + xs.length)).length = csv.size := fun xs hxs => by
    simp only [List.length_append, List.length_drop, Array.length_toList, hcl]; omega
  obtain ⟨hI2, hle2⟩ := hI.grow (n' := o + cs.length + vs.length) ht g1 g3 (by omega) g4 g5 g2 (us := (csv.toList.take (o + len * i.size) ++ vus ++ csv.toList.drop (o + len * i.size + vus.length)).toArray) (by simpa using hsize vus hvul) (by
    simp only [List.size_toArray, hsize vus hvul]; rw [hvl, p4]; omega) (fun j hj => by
    rw [hm] at hj
    simp only [List.getElem?_toArray]
    rw [List.append_assoc, List.getElem?_append_left (by omega), List.getElem?_take, if_pos hj]
    simp)
  have hblk0 : ∀ xs : List Value, (k.w.setRow c xs.toArray).heap[c]? = some (.cells xs.toArray e (lo, hi')) := fun xs => setRow_heap _ _ _ _ _ _ g4
  refine ⟨_, _, hrun, ⟨c, o, cap, csv.toList.take (o + len * i.size) ++ us ++ csv.toList.drop (o + len * i.size + us.length), e, lo, hi', _, rfl, hblk0 _, ?_, ?_, ?_, ?_, hI2, hle2, fun c' h1 h2 => setRow_other _ _ _ _ h1, fun b x y hb hx hc => ?_, rfl⟩⟩
  · rw [hsize us hul]; omega
  · rw [hm] at g5; exact g5
  · show k.w.setRow c _ = _
    rw [setRow_setRow]
    congr 2
    have h1 : (csv.toList.take (o + len * i.size) ++ us ++ csv.toList.drop (o + len * i.size + us.length)).take (o + len * i.size) = csv.toList.take (o + len * i.size) := by
      rw [List.append_assoc]
      have := List.take_left (l₁ := csv.toList.take (o + len * i.size)) (l₂ := us ++ csv.toList.drop (o + len * i.size + us.length))
      rwa [hcl] at this
    have h2 : (csv.toList.take (o + len * i.size) ++ us ++ csv.toList.drop (o + len * i.size + us.length)).drop (o + len * i.size + vus.length) = csv.toList.drop (o + len * i.size + vus.length) := by
      have hh : o + len * i.size + vus.length = (csv.toList.take (o + len * i.size) ++ us).length := by rw [List.length_append, hcl, hul, hvul]
      rw [hh, List.drop_left, ← hh, hul, hvul]
    rw [h1, h2]
  · have hblk := hblk0 (csv.toList.take (o + len * i.size) ++ vus ++ csv.toList.drop (o + len * i.size + vus.length))
    have hml : (cs ++ vs).length = (len + 1) * i.size := by rw [List.length_append, hm, hvl, Nat.add_mul, Nat.one_mul]
    have hdiv : (cs ++ vs).length / i.size = len + 1 := by rw [hml, Nat.mul_div_cancel _ hsz]
    have hr2 := hv.mono hle2
    suffices key : Rel (k.grow c (o + cs.length + vs.length) id σ.nextT (csv.toList.take (o + len * i.size) ++ vus ++ csv.toList.drop (o + len * i.size + vus.length)).toArray) (.sl i.size (cs ++ vs) (.gr σ.nextT)) (.slice (some ⟨c, o, none⟩) ((cs ++ vs).length / i.size) cap) by
      rw [hdiv] at key; exact key
    refine .sl (n := o + cs.length + vs.length) (fun j => if j < cs.length then f j else vus.getD (j - cs.length) undef) (if_pos rfl) (by rw [List.length_append]; omega) (fun j a ha => ?_) (fun j a ha => ?_) hsz (by rw [hdiv]; exact hml) (by rw [hdiv]; omega) ⟨if_pos rfl, fun _ => .inr ⟨?_, _, _, _, hblk, ?_⟩⟩
    · refine (cell_get hblk).trans ?_
      simp only [List.getElem?_toArray]
      by_cases hj : j < cs.length
      · rw [List.getElem?_append_left hj] at ha
        simp only [if_pos hj]
        rw [List.append_assoc, List.getElem?_append_left (by omega), List.getElem?_take, if_pos (by omega), ← q3 j a ha]
        rw [cell_get g4]; simp
      · simp only [if_neg hj]
        have hj2 : j - cs.length < vus.length := by have := lt_of_get ha; rw [List.length_append] at this; omega
        rw [List.append_assoc, List.getElem?_append_right (by omega), hcl, List.getElem?_append_left (by omega)]
        simp only [List.getD]
        rw [show o + j - (o + len * i.size) = j - cs.length by omega, List.getElem?_eq_getElem hj2]
        rfl
    · by_cases hj : j < cs.length
      · rw [List.getElem?_append_left hj] at ha
        simp only [if_pos hj]
        exact (q4 j a ha).mono hle2
      · rw [List.getElem?_append_right (by omega)] at ha
        simp only [if_neg hj]
        obtain ⟨u, w1, w2⟩ := hr2.get ha
        simp only [List.getD, w1, Option.getD_some]
        exact w2
    · show (if c = c then _ else _) = _
      rw [if_pos rfl, List.length_append, Nat.add_assoc]
    · simp only [List.size_toArray, hsize vus hvul]; exact p4
  · exact hI.frz_ne (by simpa [St.tok, St.untok] using hb) (hc ▸ hx) g3

theorem append_late (hI : Inv w0 σ k) {ats : Array TypeId} {ty t t' e : TypeId} {d' : TypeDesc} {i : TypeInfo} {sv xv : Value} {s x a : A} {new vs : List A} {vus : List Value} {m : Nat} (h0 : ats[0]? = some t) (h1 : ats[1]? = some t')
    (hu : P.underlying t = some (.slice e)) (hu' : P.underlying t' = some d') (hd' : ∀ kd, d' ≠ .int kd) (hi : P.info? e = some i) (hs : Rel k s sv) (hx : Rel k x xv) (hn : appended σ i.size x = some new) (hnl : new.length = i.size) (hone : allOne new = true)
    (hv : RelL k vs vus) (hvl : vs.length = i.size) (hlen : lenS s i.size = some m) (h : appendOp P t s (.sl i.size vs .no) σ = some (a, σ')) :
    ∃ w1 r, (Builtin.append_ ats ty #[sv, xv]).run P k.w = .ok r w1 ∧ Late w0 k σ' i.size m vus a w1 r := by
  unfold appendOp at h
  rw [hu] at h
  simp only [hi, appended, if_true] at h
  split at h
  case isFalse => cases h
  rename_i hsz
  split at h
  · rename_i hnil; subst hnil; simp at hvl; omega
  split at h
  case isFalse => cases h
  rename_i hc
  obtain ⟨_, hzs, hzc, hby⟩ := hc
  obtain ⟨z, hz⟩ := Option.isSome_iff_exists.1 hzs
  have hz2 : z.cells.size = i.size := by simpa [hz] using hzc
  have h1d : vs.length / i.size = 1 := by rw [hvl, Nat.div_self hsz]
  split at h
  · simp only [lenS] at hlen
    cases hlen
    split at h
    case isFalse => cases h
    rename_i hroom
    cases h
    obtain rfl := rel_v_inv hs
    obtain ⟨w1, r, g1, g2⟩ := late_new (ty := ty) (old := []) hI h0 h1 hu hu' hd' hi hz hz2 hsz hby (base := none) (sLen := 0) (sCap := 0) rfl rfl hs (by simp) hn hx hnl (by omega) (by rw [h1d] at hroom; simpa using hroom) hv hvl
    exact ⟨w1, r, g1, by simpa using g2⟩
  · rename_i sz' cs ap
    split at h
    case isFalse => cases h
    rename_i hroom
    obtain ⟨hszz, hroom⟩ := hroom
    subst hszz
    simp only [lenS, if_true] at hlen
    cases hlen
    obtain ⟨b, len, cap, rfl⟩ : ∃ b len cap, sv = .slice b len cap := by obtain ⟨c, cap, h⟩ := hs.slInv; exact ⟨_, _, _, h⟩
    have hne : cs ≠ [] ∨ ap ≠ .no := by
      cases ap with
      | no => cases h
      | ex => exact .inr (by simp)
      | gr id => exact .inr (by simp)
    obtain ⟨c, j, mm, f, rfl, hlen, q1, q2, q3, q4, q5, q6, q7, q8⟩ := hs.slFull hne
    have hdiv : (cs.length + vs.length) / i.size = len + 1 := by
      rw [q6, hvl, ← Nat.succ_mul, Nat.mul_div_cancel _ hsz]
    rw [hdiv] at hroom
    have hold : appended σ i.size (.sl i.size cs ap) = some cs := by simp [appended]
    rw [← hlen]
    split at h
    · cases h
      have : cap = len := by rw [hlen]; exact q8.1
      exact late_new (ty := ty) hI h0 h1 hu hu' hd' hi hz hz2 hsz hby rfl hold hs q6 hn hx hnl (by omega) hroom hv hvl
    · rename_i id
      split at h
      case isFalse => cases h
      rename_i hlv
      cases h
      by_cases hfit : len < cap
      · exact late_place hI h0 h1 hu hu' hd' hi hsz hone hs hn hx hnl hfit hlv hv hvl
      · obtain ⟨hI1, hle1⟩ := hI.drop id
        have ha : ∀ y, appended (σ.untok id) i.size y = appended σ i.size y := fun y => rfl
        obtain ⟨w1, r, g1, ⟨c2, o2, cap2, us2, e2, lo2, hi2, k2, p1, p2, p3, p4, p5, p6, p7, p8, p9, p10, p11⟩⟩ := late_new (ty := ty) hI1 h0 h1 hu hu' hd' hi hz hz2 hsz hby rfl (by rw [ha]; exact hold) (hs.mono hle1) q6 (by rw [ha]; exact hn) (hx.mono hle1) hnl (by omega) hroom (hv.mono hle1) hvl
        exact ⟨w1, r, g1, ⟨c2, o2, cap2, us2, e2, lo2, hi2, k2, p1, p2, p3, p4, p5, p6, p7, hle1.trans p8, p9, p10, p11⟩⟩
    · cases h
  · simp only [lenS] at hlen; cases hlen
  · cases h
end
end Go.DM
namespace Go.DM
open Go Go.RowKit

section
variable {P : Program} {w0 : World} {σ σ' : St} {k : K}

/-- an empty slice whose room has an owner -/
theorem rel_tok {k : K} {id c sz cap : Nat} {us : Array Value} {e : TypeId} {fr : Nat × Nat} (hsz : 0 < sz) (ho : k.own id = some c) (hf : k.frz c = some 0) (hh : k.w.heap[c]? = some (.cells us e fr)) (hl : us.size = cap * sz) :
    Rel k (.sl sz [] (.gr id)) (.slice (some ⟨c, 0, none⟩) 0 cap) := by
  have h00 : ([] : List A).length / sz = 0 := by simp
  have : Rel k (.sl sz [] (.gr id)) (.slice (some ⟨c, 0, none⟩) (([] : List A).length / sz) cap) :=
    .sl (n := 0) (fun _ => undef) hf (by simp) (fun j a ha => by simp at ha) (fun j a ha => by simp at ha) hsz (by simp) (by simp) ⟨ho, fun _ => .inr ⟨hf, _, _, _, hh, by simp [hl]⟩⟩
  rw [h00] at this
  exact this
theorem makeSliceOp_run (k : K) {t : TypeId} {l c a : A} {lv cv : Value} (hl : Rel k l lv) (hc : Rel k c cv) (h : makeSliceOp P t l c σ = some (a, σ')) :
    ∃ (us : List Value) (e : TypeId) (l' c' : Nat), (Instr.makeSlice t lv cv).run P k.w = .ok (.slice (some ⟨k.w.heap.size, 0, none⟩) l' c') (k.w.alloc (.cells us.toArray e)) ∧
      ((∃ z, a = .ms σ.next 0 l' c' ∧ σ' = σ.push (.cells z e) ∧ RelL k z us ∧ l' ≤ c' ∧ c' < capX) ∨ (∃ sz, 0 < sz ∧ l' = 0 ∧ a = .sl sz [] (.gr σ.nextT) ∧ σ' = σ.tok e ∧ us.length = c' * sz)) := by
  unfold makeSliceOp at h
  split at h
  case h_2 => cases h
  rename_i e l' c' hu h1 h2
  obtain ⟨kd1, i1, rfl, p1, p2⟩ := asNat_some h1
  obtain ⟨kd2, i2, rfl, p3, p4⟩ := asNat_some h2
  obtain rfl := rel_v_inv hl
  obtain rfl := rel_v_inv hc
  split at h
  case h_2 => cases h
  rename_i i hi
  split at h
  case isFalse => cases h
  rename_i hq
  obtain ⟨hle, hby, hmx, hsz⟩ := hq
  have w1 : IntKind.i64.wrap i1 = (l' : Int) := by rw [IntKind.wrap_i64]; omega
  have w2 : IntKind.i64.wrap i2 = (c' : Int) := by rw [IntKind.wrap_i64]; omega
  have hb : ¬ ((i.bytes : Int) * (c' : Int) > 2 ^ 48) := by
    have : ((i.bytes * c' : Nat) : Int) ≤ 140737488355328 := by omega
    rw [Int.natCast_mul] at this
    have h2 : (2 : Int) ^ 48 = 281474976710656 := by decide
    omega
  have hrun : ∀ zu : Array Value, ((c' * i.size = 0 ∧ zu = #[]) ∨ (c' * i.size ≠ 0 ∧ ∃ zv, i.zero = some zv ∧ zv.cells = zu)) → (Instr.makeSlice t (.int kd1 i1) (.int kd2 i2)).run P k.w = .ok (.slice (some ⟨k.w.heap.size, 0, none⟩) l' c') (k.w.alloc (.cells ((Array.range (c' * i.size)).map (zu[· % zu.size]!)) e)) := by
    intro zu hzu
    have t1 : ¬ ((decide ((c' : Int) < 0) || decide ((i.bytes : Int) * (c' : Int) > 2 ^ 48) || decide ((l' : Int) < 0) || decide ((l' : Int) > (c' : Int))) = true) := by
      simp only [Bool.or_eq_true, decide_eq_true_eq]
      omega
    simp only [Instr.makeSlice, asInt, asIntOf, Sem.run_bind, run_underlying hu, Result.andThen_ok, Sem.run_pure, run_typeInfo' hi, w1, w2, Sem.run_ite]
    rw [if_neg t1]
    simp only [run_askRoom, Result.andThen_ok, run_sizeOf' hi, Int.toNat_natCast]
    rcases hzu with ⟨h0, rfl⟩ | ⟨h0, zv, g1, g2⟩
    · rw [if_pos h0]
      simp [newRow]
    · rw [if_neg h0]
      simp only [run_zeroValue' hi g1, Result.andThen_ok, g2]
      simp [newRow]
  split at h
  · rename_i h0
    subst h0
    split at h
    · rename_i zv hzv
      cases h
      have hex : ∃ zu : Array Value, ((c' * i.size = 0 ∧ zu = #[]) ∨ (c' * i.size ≠ 0 ∧ ∃ zv, i.zero = some zv ∧ zv.cells = zu)) := by
        by_cases h0 : c' * i.size = 0
        · exact ⟨#[], .inl ⟨h0, rfl⟩⟩
        · exact ⟨zv.cells, .inr ⟨h0, zv, hzv, rfl⟩⟩
      obtain ⟨zu, hzu⟩ := hex
      exact ⟨((Array.range (c' * i.size)).map (zu[· % zu.size]!)).toList, e, 0, c', by rw [Array.toArray_toList]; exact hrun zu hzu, .inr ⟨i.size, hsz, rfl, rfl, rfl, by simp⟩⟩
    · cases h
  · rename_i hl0
    split at h
    case h_2 => cases h
    rename_i z hz
    split at h
    case isFalse => cases h
    rename_i hzl
    cases h
    obtain ⟨i', zv, us, g1, g2, g3, g4⟩ := zeroOf_good (k := k) hz
    rw [hi] at g1; cases g1
    have hr := rep_rel g4 c'
    rw [hzl] at hr
    have hc0 : c' * i.size ≠ 0 := Nat.mul_ne_zero (by omega) (by omega)
    exact ⟨_, e, l', c', by rw [Array.toArray_toList]; exact hrun us.toArray (.inr ⟨hc0, zv, g2, g3⟩), .inl ⟨_, rfl, rfl, hr, hle, hmx⟩⟩

theorem makeSliceOp_good (hI : Inv w0 σ k) {t : TypeId} {l c a : A} {lv cv : Value} (hl : Rel k l lv) (hc : Rel k c cv) (h : makeSliceOp P t l c σ = some (a, σ')) :
    ∃ k' v, (Instr.makeSlice t lv cv).run P k.w = .ok v k'.w ∧ Rel k' a v ∧ Inv w0 σ' k' ∧ k.le k' := by
  obtain ⟨us, e, l', c', hrun, ⟨z, rfl, rfl, hr, hle, hcx⟩ | ⟨sz, hsz, rfl, rfl, rfl, hlen⟩⟩ := makeSliceOp_run k hl hc h
  · obtain ⟨q1, q2, q3⟩ := hI.push (x := .cells z e) (o := .cells us.toArray e) (.of hr)
    exact ⟨_, _, hrun, .ms q3 hle hcx, q1, q2⟩
  · obtain ⟨g1, g2⟩ := hI.layTok (us := us.toArray) (e := e) (lo := 0) (hi := 0) (n := 0) (Nat.zero_le _) (.inl rfl)
    refine ⟨_, _, hrun, ?_, g1, g2⟩
    have hblk : (k.w.alloc (.cells us.toArray e)).heap[k.w.heap.size]? = some (.cells us.toArray e (0, 0)) := heap_alloc_same k.w _
    exact rel_tok (k := k.layTok (.cells us.toArray e (0, 0)) 0 σ.nextT) hsz (if_pos rfl) (if_pos rfl) hblk (by simp [hlen])

theorem typeAssertOp_good {x a : A} {u : Value} {xt t : TypeId} {ok : Bool} (hx : Rel k x u) (h : typeAssertOp P x t ok = some a) : ∃ v, (Instr.typeAssert u xt t ok).run P k.w = .ok v k.w ∧ Rel k a v := by
  have hholds : ∀ {y : A} {uv : Value} {a : A}, Rel k y uv → some (if ok then A.tup [y, .v (.bool true)] else y) = some a → ∃ v, ((pure (if ok then .tuple #[uv, .bool true] else uv)) : Sem Value).run P k.w = .ok v k.w ∧ Rel k a v := by
    intro y uv a hy h
    cases h
    cases ok
    · exact ⟨uv, rfl, hy⟩
    · exact ⟨_, rfl, rel_tup2 hy rel_bool⟩
  have hfails : ∀ {st dy : Option TypeId} {ms : String} {a : A}, (if ok then (match zeroA P t with | some z => some (A.tup [z, .v (.bool false)]) | none => none) else none) = some a →
      ∃ v, ((if ok then (do pure (.tuple #[← zeroValue t, .bool false])) else runtimePanic (.typeAssertion st dy t ms)) : Sem Value).run P k.w = .ok v k.w ∧ Rel k a v := by
    intro st dy ms a h
    cases ok
    · simp at h
    · simp only [if_true] at h ⊢
      split at h
      · rename_i z hz
        cases h
        obtain ⟨i, zv, g1, g2, g3⟩ := zeroA_good (k := k) hz
        exact ⟨.tuple #[zv, .bool false], by simp [run_zeroValue' g1 g2], rel_tup2 g3 rel_bool⟩
      · cases h
  unfold typeAssertOp at h
  simp only at h
  split at h
  · rename_i ms hu
    obtain rfl := rel_v_inv hx
    obtain ⟨v, g1, g2⟩ := hfails (st := none) (dy := none) (ms := "") h
    exact ⟨v, by simp only [Instr.typeAssert, Sem.run_bind, run_underlying hu, Result.andThen_ok]; exact g1, g2⟩
  · rename_i ms d y hu
    cases hx with
    | ifc hy =>
      rename_i uv
      split at h
      · rename_i i hi
        split at h
        · rename_i hm
          obtain ⟨v, g1, g2⟩ := hholds (.ifc hy) h
          exact ⟨v, by simp only [Instr.typeAssert, Sem.run_bind, run_underlying hu, Result.andThen_ok, run_typeInfo' hi, hm]; exact g1, g2⟩
        · rename_i m hm
          obtain ⟨v, g1, g2⟩ := hfails (st := none) (dy := some d) (ms := m) h
          exact ⟨v, by simp only [Instr.typeAssert, Sem.run_bind, run_underlying hu, Result.andThen_ok, run_typeInfo' hi, hm]; exact g1, g2⟩
      · cases h
  · rename_i d hu hni
    obtain rfl := rel_v_inv hx
    obtain ⟨v, g1, g2⟩ := hfails (st := some xt) (dy := none) (ms := "") h
    refine ⟨v, ?_, g2⟩
    simp only [Instr.typeAssert, Sem.run_bind, run_underlying hni, Result.andThen_ok]
    cases d <;> first | exact g1 | exact absurd rfl (hu _)
  · rename_i d ty y hu hni
    cases hx with
    | ifc hy =>
      rename_i uv
      split at h
      · rename_i he
        subst he
        obtain ⟨v, g1, g2⟩ := hholds hy h
        refine ⟨v, ?_, g2⟩
        simp only [Instr.typeAssert, Sem.run_bind, run_underlying hni, Result.andThen_ok]
        cases d <;> first | (simp only [if_true]; exact g1) | exact absurd rfl (hu _)
      · rename_i he
        obtain ⟨v, g1, g2⟩ := hfails (st := some xt) (dy := some ty) (ms := "") h
        refine ⟨v, ?_, g2⟩
        simp only [Instr.typeAssert, Sem.run_bind, run_underlying hni, Result.andThen_ok]
        cases d <;> first | (rw [if_neg he]; exact g1) | exact absurd rfl (hu _)
  · cases h

theorem toBytes_rel : ∀ {cs : List A} {us : List Value} {bs : List UInt8}, RelL k cs us → toBytes cs = some bs → us = us ∧ us.length = bs.length ∧ ∀ (j : Nat) (u : Value), us[j]? = some u → ∃ n : Int, u = .int .u8 n ∧ bs[j]? = some (UInt8.ofNat n.toNat)
  | [], us, bs, hr, h => by
    simp only [toBytes] at h; cases h
    rw [hr.inv_nil]
    exact ⟨rfl, rfl, fun j u h => by simp at h⟩
  | a :: cs, us, bs, hr, h => by
    obtain ⟨u, us', rfl, h1, h2⟩ := hr.inv_cons
    unfold toBytes at h
    split at h
    · rename_i heq; cases heq
    · rename_i n r heq
      cases heq
      split at h
      · rename_i bs' hb
        cases h
        obtain ⟨_, l1, l2⟩ := toBytes_rel h2 hb
        obtain rfl := rel_v_inv h1
        refine ⟨rfl, by simp [l1], fun j u hu => ?_⟩
        cases j with
        | zero => simp at hu; subst hu; exact ⟨n, rfl, rfl⟩
        | succ j => simp at hu ⊢; exact l2 j u hu
      · cases h
    · cases h

/-- the model's way from bytes to a string -/
theorem bytes_fold (w : World) (f : Value → ByteArray → Sem (ForInStep ByteArray)) (hf : ∀ (n : Int) (s : ByteArray), (f (.int .u8 n) s).run P w = .ok (.yield (s.push (UInt8.ofNat n.toNat))) w) : ∀ (us : List Value) (bs : List UInt8) (acc : ByteArray), us.length = bs.length →
    (∀ (j : Nat) (u : Value), us[j]? = some u → ∃ n : Int, u = .int .u8 n ∧ bs[j]? = some (UInt8.ofNat n.toNat)) → (forIn us acc f : Sem ByteArray).run P w = .ok ⟨(acc.data.toList ++ bs).toArray⟩ w
  | [], bs, acc, hl, _ => by
    have : bs = [] := List.eq_nil_of_length_eq_zero hl.symm
    subst this
    simp
  | u :: us, bs, acc, hl, h => by
    match bs, hl with
    | b :: bs, hl =>
      obtain ⟨n, rfl, hb⟩ := h 0 u rfl
      simp at hb
      subst hb
      have ih := bytes_fold w f hf us bs (acc.push (UInt8.ofNat n.toNat)) (by simpa using hl) (fun j u hu => by simpa using h (j + 1) u (by simpa using hu))
      simp only [List.forIn_cons, Sem.run_bind, hf, Result.andThen_ok]
      rw [ih]
      simp [ByteArray.push]

theorem bytes_run {c i : Nat} {cs : List A} {bs : List UInt8} (h : CellsAt k c i cs) (hb : toBytes cs = some bs) (cap : Nat) : (Conv.bytesToString (.slice (some ⟨c, i, none⟩) cs.length cap)).run P k.w = .ok (.string ⟨bs.toArray⟩) k.w := by
  obtain ⟨us, g1, g2⟩ := h.load (P := P)
  obtain ⟨_, l1, l2⟩ := toBytes_rel g1 hb
  simp only [Conv.bytesToString, Sem.run_bind, g2, Result.andThen_ok]
  rw [← Array.forIn_toList]
  rw [bytes_fold (P := P) k.w _ (fun n s => rfl) us bs ByteArray.empty l1 l2]
  simp

theorem stringToBytes_good (hI : Inv w0 σ k) (e : TypeId) (s : ByteArray) : ∃ k' v, (Conv.stringToBytes e s).run P k.w = .ok v k'.w ∧ Rel k' (.sl 1 (bytesOf s) .no) v ∧ Inv w0 σ k' ∧ k.le k' := by
  obtain ⟨hI1, hle1⟩ := hI.drew
  obtain ⟨cap, hcut, hcapge⟩ : ∃ cap, (Question.appendCap s.size 0 e).cut (k.w.tape k.w.drawn (Question.appendCap s.size 0 e)) = cap ∧ s.size ≤ cap := ⟨_, rfl, by simp [Question.cut]⟩
  have hlen : (bytesOf s).length = s.size := by simp [bytesOf]
  have hq : (Question.appendCap s.size 0 e).forced = false := rfl
  obtain ⟨arr, harr⟩ : ∃ arr : Array Value, arr = s.data.map (fun b : UInt8 => Value.int .u8 b.toNat) ++ Array.replicate (cap - s.size) (Value.int .u8 0) := ⟨_, rfl⟩
  have hsz : arr.size = cap := by
    rw [harr]
    simp only [Array.size_append, Array.size_map, Array.size_replicate]
    have : s.data.size = s.size := rfl
    omega
  obtain ⟨hI2, hle2, f2, o2⟩ := hI1.lay (us := arr) (e := e) (fr := (0, 0)) (n := s.size) (by rw [hsz]; exact hcapge)
  have hblk : ((k.wd k.w.drew).lay (.cells arr e (0, 0)) s.size).w.heap[k.w.heap.size]? = some (.cells arr e (0, 0)) := heap_alloc_same k.w.drew _
  obtain ⟨hI3, hle3⟩ := hI2.freeze (a := cap) (m := 1) f2 hblk hI.below.size (.inl o2)
  have hshape : ((k.w.drew).alloc (.cells arr e)).shape? k.w.heap.size = some (e, cap) := by
    simp only [World.shape?]
    rw [show ((k.w.drew).alloc (.cells arr e)).heap[k.w.heap.size]? = some (.cells arr e (0, 0)) from heap_alloc_same k.w.drew _]
    simp only [hsz]
  refine ⟨_, .slice (some ⟨k.w.heap.size, 0, none⟩) s.size cap, ?_, ?_, hI3, hle1.trans (hle2.trans hle3)⟩
  · simp only [Conv.stringToBytes, Sem.run_bind, run_choose, hq, Bool.false_eq_true, if_false, hcut, Result.andThen_ok, World.drew_eq, newRow, run_newObj, Sem.run_pure, World.alloc_eq, markStringish, run_shape, World.size_drew, ← harr, hshape, run_freeze]
    rfl
  · have key : Rel ((k.wd k.w.drew).lay (.cells arr e (0, 0)) s.size) (.sl 1 (bytesOf s) .no) (.slice (some ⟨k.w.heap.size, 0, none⟩) ((bytesOf s).length / 1) cap) := by
      refine .sl (n := s.size) (fun j => (s.data.toList.map (fun b : UInt8 => Value.int .u8 b.toNat)).getD j undef) f2 (by omega) (fun j a ha => ?_) (fun j a ha => ?_) (by omega) (by simp) (by rw [hlen]; simpa using hcapge) trivial
      · obtain ⟨u, w1, _⟩ := (bytesOf_rel (k := k) s).get ha
        refine (cell_get hblk).trans ?_
        have hj : j < s.data.size := by have := lt_of_get ha; rw [hlen] at this; exact this
        rw [Nat.zero_add, harr, Array.getElem?_append_left (by simpa using hj)]
        obtain ⟨x, hx⟩ : ∃ x, s.data[j]? = some x := ⟨_, Array.getElem?_eq_getElem hj⟩
        simp only [Array.getElem?_map, List.getD, List.getElem?_map, Array.getElem?_toList, hx, Option.map_some, Option.getD_some]
      · obtain ⟨u, w1, w2⟩ := (bytesOf_rel (k := (k.wd k.w.drew).lay (.cells arr e (0, 0)) s.size) s).get ha
        simp only [List.getD, w1, Option.getD_some]
        exact w2
    rw [hlen, Nat.div_one] at key
    exact key.mono hle3

theorem convertOp_good (hI : Inv w0 σ k) {s d : TypeId} {x a : A} {u : Value} (hx : Rel k x u) (h : convertOp P s d x σ = some (a, σ')) :
    ∃ k' v, (convert s d u).run P k.w = .ok v k'.w ∧ Rel k' a v ∧ Inv w0 σ' k' ∧ k.le k' := by
  unfold convertOp at h
  split at h
  · rename_i e str h1 h2
    split at h
    · rename_i i h3 h4
      split at h
      · cases h
        obtain rfl := rel_v_inv hx
        obtain ⟨k', v, g1, g2, g3, g4⟩ := stringToBytes_good (P := P) hI e str
        exact ⟨k', v, by simp only [convert, Sem.run_bind, run_underlying h1, run_underlying h2, Result.andThen_ok, run_underlying h3]; exact g1, g2, g3, g4⟩
      · cases h
    · cases h
  · rename_i e e' cs h1 h2
    split at h
    · rename_i h3
      split at h
      · rename_i hsd
        cases h
        obtain ⟨b, len, cap, rfl⟩ : ∃ b len cap, u = .slice b len cap := by obtain ⟨c, cap, h⟩ := hx.slInv; exact ⟨_, _, _, h⟩
        obtain ⟨c, i, n, f, rfl, hlen, q1, q2, q3, q4, q5, q6, q7, q8⟩ := hx.slFull (.inr (by simp))
        subst hlen
        obtain ⟨csv, e2, fr, g1, g2⟩ := hI.frz c n q1
        obtain ⟨lo, hi⟩ := fr
        obtain ⟨p1, p2⟩ := hI.freeze (a := csv.size) (m := 1) q1 g1 (by rw [← hI.base]; exact q8.2.1) (.inl q8.2.2)
        refine ⟨_, _, ?_, hx.mono p2, p1, p2⟩
        have hshape : k.w.shape? c = some (e2, csv.size) := by simp [World.shape?, g1]
        subst hsd
        rw [h1] at h2; cases h2
        simp only [convert, Sem.run_bind, run_underlying h1, Result.andThen_ok, beq_self_eq_true, run_underlying h3, markStringish, run_shape, hshape, run_freeze, Sem.run_pure]
        rfl
      · cases h
    · cases h
  · rename_i e cs ap h1 h2 h3
    split at h
    · rename_i bs h4 h5
      cases h
      by_cases hne : ap = []
      · subst hne
        simp only [toBytes] at h5
        cases h5
        obtain ⟨c, cap, rfl⟩ := hx.slInv
        refine ⟨k, .string ⟨#[]⟩, ?_, .v rfl, hI, K.le.refl k⟩
        simp only [convert, Sem.run_bind, run_underlying h2, run_underlying h3, Result.andThen_ok, run_underlying h4]
        have hz : ([] : List A).length / 1 = 0 := rfl
        rw [hz]
        rfl
      obtain ⟨c, i, cap, rfl, hsp⟩ := hx.slInv' hne
      obtain ⟨c0, i0, n, f, q0, hlen, q1, q2, q3, q4, q5, q6, q7, q8⟩ := hx.slFull (.inl hne)
      cases q0
      have hr := bytes_run (P := P) (k := k) (c := c) (i := i) (fun j a ha => ⟨_, q3 j a ha, q4 j a ha⟩) h5 cap
      refine ⟨k, .string ⟨bs.toArray⟩, ?_, .v rfl, hI, K.le.refl k⟩
      simp only [convert, Sem.run_bind, run_underlying h2, run_underlying h3, Result.andThen_ok, run_underlying h4, Nat.div_one]
      exact hr
    · cases h
  · rename_i e b o len cap h1 h2
    split at h
    · rename_i cs e2 h4 h5
      split at h
      · rename_i hfit
        split at h
        · rename_i bs hb
          cases h
          obtain ⟨c, cap', rfl, hbk, _, _⟩ := hx.msInv
          · obtain ⟨g, _⟩ := hI.cellsAt h5 hbk
            have hlen : ((cs.drop o).take len).length = len := by rw [List.length_take, List.length_drop]; omega
            have hr := bytes_run (P := P) (g.sub o len) hb cap'
            rw [hlen, Nat.zero_add] at hr
            refine ⟨k, .string ⟨bs.toArray⟩, ?_, .v rfl, hI, K.le.refl k⟩
            simp only [convert, Sem.run_bind, run_underlying h1, run_underlying h2, Result.andThen_ok, run_underlying h4]
            exact hr
        · cases h
      · cases h
    · cases h
  · rename_i t b o h1 h2
    split at h
    · rename_i n cs e h3 h4
      split at h
      · rename_i hq
        cases h
        cases hx with
        | ptr hb =>
          rename_i c
          obtain ⟨_, _, us, ws, e2, g1, g2, _⟩ := hI.cellsAt h4 hb
          refine ⟨k, _, ?_, .ptr hb, hI, K.le.refl k⟩
          have hshape : k.w.shape? c = some (e2, (us ++ ws).length) := by simp [World.shape?, g1]
          have hn : ¬ n = 0 := by omega
          have ho : ¬ us.length + ws.length ≤ o := by rw [← g2.1]; omega
          simp only [convert, Sem.run_bind, run_underlying h1, run_underlying h2, Result.andThen_ok, Conv.unsafePointer, Conv.seenAt, viewAt, run_shape, hshape, Option.isSome_some, if_true, Sem.run_pure, cellsIn, run_sizeOfT h3]
          simp [hn, ho]
      · cases h
    · cases h
  · rename_i t b o h1 h2
    split at h
    · rename_i n cs e h3 h4
      split at h
      · rename_i hq
        cases h
        cases hx with
        | ptr hb =>
          rename_i c
          obtain ⟨_, _, us, g1, g2, _⟩ := hI.cellsEx h4 hb hq.2.1
          refine ⟨k, _, ?_, .ptr hb, hI, K.le.refl k⟩
          have hshape : k.w.shape? c = some (e, us.length) := by simp [World.shape?, g1]
          have hv : liesAt P P.depth e (us.length / P.cellsOf e) o t 1 = true := by rw [← g2.1]; exact hq.2.2
          simp only [convert, Sem.run_bind, run_underlying h1, run_underlying h2, Result.andThen_ok, Conv.unsafePointer, Conv.seenAt, viewAt, run_shape, hshape, Option.isSome_some, if_true, Sem.run_pure, run_sizeOfT h3, variablesAt, run_program, hv]
          simp
      · cases h
    · cases h
  · cases h
end
end Go.DM
namespace Go.DM
open Go Go.RowKit

section
variable {P : Program} {w0 : World} {σ σ' : St} {k : K}

theorem mp_inv {b : Nat} {u : Value} (h : Rel k (.mp b) u) : ∃ c, u = .map (some c) ∧ k.blk b = some c := by
  cases h with
  | mp hb => exact ⟨_, rfl, hb⟩
theorem Inv.mapAt (hI : Inv w0 σ k) {b c clock : Nat} {es : List (Value × A × Nat)} (hg : σ.blks.get b = some (.map es clock)) (hb : k.blk b = some c) : ∃ fs : List MapEntry, k.w.heap[c]? = some (.map fs.toArray clock) ∧ EsRel k es fs := by
  obtain ⟨c', o, h1, h2, h3, h4, fs, rfl, h5⟩ := hI.blk b _ hg
  rw [hb] at h1; cases h1
  exact ⟨fs, h4, h5⟩
theorem run_getMap {w : World} {r clock : Nat} {es : Array MapEntry} (hb : w.heap[r]? = some (.map es clock)) : (getObj r).run P w = .ok (.map es clock) w := by simp [getObj, Sem.run, hb]
theorem run_setMap {w : World} {r clock : Nat} {es : Array MapEntry} (o : Obj) (hb : w.heap[r]? = some (.map es clock)) : (setObj r o).run P w = .ok () (w.setO r o) := by simp [setObj, Sem.run, hb, World.setO]

theorem lenA_good (hI : Inv w0 σ k) {ats : Array TypeId} {ty t : TypeId} {x : A} {u : Value} {n : Nat} (h0 : ats[0]? = some t) (hx : Rel k x u) (h : lenA P t x σ = some n) : (Builtin.len_ ats ty #[u]).run P k.w = .ok (.int .i64 (n : Nat)) k.w := by
  unfold lenA at h
  split at h
  · rename_i hu; cases h
    obtain ⟨c, cap, rfl⟩ := hx.slInv
    simp [Builtin.len_, h0, run_underlying hu, goInt]
  · rename_i hu; cases h
    cases hx <;>
    simp [Builtin.len_, h0, run_underlying hu, goInt]
  · rename_i b hu
    obtain ⟨c, rfl, hb⟩ := mp_inv hx
    split at h
    · rename_i es clock hg
      cases h
      obtain ⟨fs, h1, h2⟩ := hI.mapAt hg hb
      simp [Builtin.len_, h0, run_underlying hu, run_getMap h1, goInt, h2.1]
    · cases h
  · rename_i hu; cases h
    simp [Builtin.len_, h0, run_underlying hu, goInt]
  · cases h

theorem sliceDataOp_good {ats : Array TypeId} {ty : TypeId} {x a : A} {u : Value} (hx : Rel k x u) (h : sliceDataOp x = some a) : ∃ v, (Builtin.unsafeSliceData_ ats ty #[u]).run P k.w = .ok v k.w ∧ Rel k a v := by
  unfold sliceDataOp at h
  split at h
  · rename_i sz cs ap
    split at h
    · rename_i hl
      cases h
      obtain ⟨b, len, cap, rfl⟩ : ∃ b len cap, u = .slice b len cap := by obtain ⟨c, cap, h⟩ := hx.slInv; exact ⟨_, _, _, h⟩
      obtain ⟨c, i, n, f, rfl, hlen, q1, q2, q3, q4, q5, q6, q7, q8⟩ := hx.slFull (.inl (fun e => by rw [e] at hl; simp at hl))
      have hc : cap ≠ 0 := by
        intro h0
        have : len = 0 := by omega
        rw [this] at q6; omega
      have hdef : Builtin.unsafeSliceData_ ats ty #[.slice (some ⟨c, i, none⟩) len cap] = (if cap ≠ 0 then pure (.pointer (some ⟨c, i, none⟩)) else do
          if (← viewAt (⟨c, i, none⟩ : Addr).block).isSome then pure (.pointer (some ⟨c, i, none⟩)) else pure (.pointer (some ⟨← newObj (.view ⟨c, i, none⟩ (← elemOf ty)), 0, none⟩))) := rfl
      refine ⟨.pointer (some ⟨c, i + 0, none⟩), by rw [hdef, if_pos hc]; rfl, .sp f q1 q2 q3 q4 ?_⟩
      cases ap with
      | gr id => exact q8.1
      | no => trivial
      | ex => trivial
    · cases h
  · cases h

theorem liesAt_byte {e : TypeId} {count off n : Nat} (hs : P.cellsOf e = 1) (hf : off + n ≤ count) : liesAt P P.depth e (count / P.cellsOf e) off e n = true := by
  obtain ⟨d, hd⟩ : ∃ d, P.depth = d + 1 := ⟨2 * (P.types.size + Made.depth) + 1, rfl⟩
  rw [hs, Nat.div_one, hd]
  unfold liesAt
  rw [hd]
  have : rowAt P (sameLayout P (d + 1) · e) (d + 1) e count off n = true := by
    unfold rowAt
    rw [hs]
    have hl : sameLayout P (d + 1) e e = true := by unfold sameLayout; simp
    simp [Nat.mod_one, hf, hl]
  rw [this]; rfl

theorem run_loadBytes (w : World) : ∀ (n i : Nat) (c : Nat) (us : List Value) (bs : List UInt8) (acc : ByteArray), us.length = n → us.length = bs.length → (∀ (j : Nat) (v : Value), us[j]? = some v → w.cell? ⟨c, i + j, none⟩ = some v) →
    (∀ (j : Nat) (u : Value), us[j]? = some u → ∃ n : Int, u = .int .u8 n ∧ bs[j]? = some (UInt8.ofNat n.toNat)) → (loadBytes ⟨c, i, none⟩ acc n).run P w = .ok ⟨(acc.data.toList ++ bs).toArray⟩ w
  | 0, i, c, us, bs, acc, h1, h2, _, _ => by
    have : us = [] := List.eq_nil_of_length_eq_zero h1
    subst this
    have : bs = [] := List.eq_nil_of_length_eq_zero h2.symm
    subst this
    simp [loadBytes]
  | n + 1, i, c, us, bs, acc, h1, h2, h3, h4 => by
    match us, bs, h1, h2 with
    | u :: us, b :: bs, h1, h2 =>
      obtain ⟨m, rfl, hb⟩ := h4 0 u rfl
      simp at hb
      subst hb
      have hc := h3 0 _ rfl
      rw [Nat.add_zero] at hc
      have ih := run_loadBytes w n (i + 1) c us bs (acc.push (m.toNat.toUInt8)) (by simpa using h1) (by simpa using h2) (fun j v hv => by
        have := h3 (j + 1) v (by simpa using hv)
        rw [← this]; congr 2; omega) (fun j u hu => by simpa using h4 (j + 1) u (by simpa using hu))
      simp only [loadBytes, Sem.run_bind, run_load, hc, Result.andThen_ok]
      rw [addr_add, ih]
      simp [ByteArray.push]

theorem unsafeStringOp_good (hI : Inv w0 σ k) {ats : Array TypeId} {ty pt : TypeId} {x n a : A} {u nv : Value} (h0 : ats[0]? = some pt) (hx : Rel k x u) (hn : Rel k n nv) (h : unsafeStringOp P pt x n σ = some a) :
    ∃ k' v, (Builtin.unsafeString_ ats ty #[u, nv]).run P k.w = .ok v k'.w ∧ Rel k' a v ∧ Inv w0 σ k' ∧ k.le k' := by
  unfold unsafeStringOp at h
  split at h
  · rename_i cs id m e hm hpt
    obtain ⟨kd, i', rfl, p1, p2⟩ := asNat_some hm
    obtain rfl := rel_v_inv hn
    split at h
    · rename_i ti e2 hu8 hi hlv
      split at h
      · rename_i hq
        obtain ⟨hsz, rfl, hpos, hle, hmax⟩ := hq
        split at h
        · rename_i bs hb
          cases h
          obtain ⟨c, y, rfl⟩ := hx.spInv
          cases hx with
          | @sp _ _ _ i fz _ f q1 q2 q3 q4 q5 =>
            obtain ⟨l1, c', n', csv, lo, hi', g1, g2, g3, g4, g5⟩ := hI.tok id e2 hlv
            have q5' : k.own id = some c := q5
            rw [q5'] at g1; cases g1
            rw [q1] at g3; cases g3
            have hcells : P.cellsOf e2 = 1 := by simp [Program.cellsOf, hi, hsz]
            obtain ⟨csz, e3, fr3, w1, w2⟩ := hI.frz c fz q1
            rw [g4] at w1; cases w1
            have hshape : k.w.shape? c = some (e2, csv.size) := by simp [World.shape?, g4]
            have hlies : liesAt P P.depth e2 (csv.size / P.cellsOf e2) i e2 m = true := liesAt_byte hcells (by omega)
            have hca : CellsAt k c i cs := fun j a ha => ⟨_, q3 j a ha, q4 j a ha⟩
            obtain ⟨us, r1, r2⟩ := (hca.sub 0 m).list
            simp only [List.drop_zero, Nat.add_zero] at r1 r2
            obtain ⟨_, r3, r4⟩ := toBytes_rel r1 hb
            have hul : us.length = m := by rw [← r1.1, List.length_take]; omega
            have hld := run_loadBytes (P := P) k.w m i c us bs .empty hul r3 r2 r4
            obtain ⟨f1, f2⟩ := hI.freeze (a := i) (m := m) q1 g4 g2 (.inr ⟨by omega, g5⟩)
            refine ⟨_, .string ⟨bs.toArray⟩, ?_, .v rfl, f1, f2⟩
            have t1 : ¬ (i' < 0) := by omega
            have t2 : ¬ (i' > IntKind.i64.max) := by
              have : IntKind.i64.max = 9223372036854775807 := by decide
              omega
            have t3 : ¬ (i' = 0) := by omega
            simp only [Nat.add_zero]
            have hdef : Builtin.unsafeString_ ats ty #[.pointer (some ⟨c, i, none⟩), .int kd i'] = (do
              let n ← asInt (.int kd i')
              let some pt := ats[0]? | stuck "unsafe.String: no argument types"
              if n < 0 then runtimePanic (.error "unsafe.String: len out of range")
              if n > IntKind.i64.max then unsupported (.unsafePointer "String: a length above the largest int")
              if n = 0 then pure (.string .empty)
              else if ← variablesAt ⟨c, i, none⟩ (← elemOf pt) n.toNat then do
                let s ← loadBytes ⟨c, i, none⟩ .empty n.toNat
                freeze ⟨c, i, none⟩ n.toNat
                pure (.string s)
              else unsupported (.unsafePointer "String: not so many bytes at ptr")) := rfl
            rw [hdef]
            simp only [asInt, asIntOf, h0, Sem.run_bind, Sem.run_pure, Result.andThen_ok, Sem.run_ite, if_neg t1, if_neg t2, if_neg t3, elemOf, run_underlying hpt, variablesAt, run_program, run_shape, hshape, p2, hlies, if_true, hld, run_freeze]
            simp [K.wd]
        · cases h
      · cases h
    · cases h
  · cases h

theorem same_key (d : TypeDesc) (x y : Value) : Instr.sameNow d x y = sameKey d x y := by
  cases d <;> first | rfl | (cases x <;> first | rfl | (cases y <;> rfl))
theorem findA_good {d : TypeDesc} {kv : Value} : ∀ {es : List (Value × A × Nat)} {fs : List MapEntry} {i : Nat} {r : Option (Nat × A × Nat)}, EsRel k es fs → findA d kv es i = some r →
    (r = none ∧ Instr.findNow d kv fs i = some none) ∨ ∃ j x b f, r = some (i + j, x, b) ∧ Instr.findNow d kv fs i = some (some (i + j, f.val)) ∧ fs[j]? = some f ∧ Rel k x f.val ∧ f.born = b ∧ sameKey d kv f.key = some true ∧ (∃ e, es[j]? = some e ∧ e.2 = (x, b))
  | [], fs, i, r, hr, h => by
    simp only [findA] at h; cases h
    have : fs = [] := List.eq_nil_of_length_eq_zero (by simpa using hr.1.symm)
    subst this
    exact .inl ⟨rfl, rfl⟩
  | (k', x, b) :: es, fs, i, r, hr, h => by
    match fs, hr with
    | f :: fs, hr =>
      obtain ⟨e1, e2, e3⟩ := hr.2 0 _ f rfl rfl
      simp only at e1 e2 e3
      simp only [findA] at h
      simp only [Instr.findNow, same_key, e1]
      split at h
      · rename_i hs
        cases h
        rw [hs]
        exact .inr ⟨0, x, b, f, rfl, rfl, rfl, e3, e2, by rw [e1]; exact hs, _, rfl, rfl⟩
      · rename_i hs
        rw [hs]
        have hr' : EsRel k es fs := ⟨by simpa using hr.1, fun j a c ha hc => hr.2 (j + 1) a c (by simpa using ha) (by simpa using hc)⟩
        rcases findA_good hr' h with h' | ⟨j, y, c, g, h1, h2, h3, h4, h5, h6, h7⟩
        · exact .inl h'
        · refine .inr ⟨j + 1, y, c, g, by rw [h1]; congr 2; omega, ?_, by simpa using h3, h4, h5, h6, by simpa using h7⟩
          simp only [h2]
          congr 3; omega
      · cases h

theorem run_checkKey {kt : TypeId} {d : TypeDesc} (hk : P.underlying kt = some d) (hd : (∃ i, d = .int i) ∨ d = .string ∨ d = .bool) (n : Nat) (b : Bool) (v : Value) (w : World) : (Instr.checkKey b (n + 1) kt v).run P w = .ok () w := by
  rcases hd with ⟨i, rfl⟩ | rfl | rfl <;> simp [Instr.checkKey, run_underlying hk]
theorem keyDesc_good {t : TypeId} {d : TypeDesc} {e : TypeId} (h : keyDesc P t = some (d, e)) : ∃ kt, P.underlying t = some (.map kt e) ∧ P.underlying kt = some d ∧ (∀ (b : Bool) (v : Value) (w : World), (Instr.checkKey b 10000 kt v).run P w = .ok () w) ∧ ((∃ i, d = .int i) ∨ d = .string ∨ d = .bool) := by
  unfold keyDesc at h
  split at h
  · rename_i kt e' hu
    split at h
    · rename_i i hk; cases h
      exact ⟨kt, hu, hk, fun b v w => run_checkKey hk (.inl ⟨_, rfl⟩) 9999 b v w, .inl ⟨_, rfl⟩⟩
    · rename_i hk; cases h
      exact ⟨kt, hu, hk, fun b v w => run_checkKey hk (.inr (.inl rfl)) 9999 b v w, .inr (.inl rfl)⟩
    · rename_i hk; cases h
      exact ⟨kt, hu, hk, fun b v w => run_checkKey hk (.inr (.inr rfl)) 9999 b v w, .inr (.inr rfl)⟩
    · cases h
  · cases h

theorem run_findKey {w : World} {kt : TypeId} {d : TypeDesc} {kv : Value} {fs : List MapEntry} {r : Option (Nat × Value)} (hk : P.underlying kt = some d) (h : Instr.findNow d kv fs 0 = some r) : (Instr.findKey kt kv fs).run P w = .ok r w := by
  simp [Instr.findKey, run_underlying hk, h]

theorem lookupOp_good (hI : Inv w0 σ k) {t : TypeId} {m kx a : A} {mv kv : Value} {ok : Bool} (hm : Rel k m mv) (hk : Rel k kx kv) (h : lookupOp P t m kx ok σ = some a) : ∃ v, (Instr.lookup t mv kv ok).run P k.w = .ok v k.w ∧ Rel k a v := by
  unfold lookupOp at h
  split at h
  case h_2 => cases h
  rename_i d e kv' hd
  obtain rfl := rel_v_inv hk
  obtain ⟨kt, h1, h2, h3, h4⟩ := keyDesc_good hd
  split at h
  case isFalse => cases h
  have key : ∀ {es : List (Value × A × Nat)} {fs : List MapEntry}, EsRel k es fs → (match findA d kv es 0 with
        | some (some (_, x, _)) => some (if ok then A.tup [x, .v (.bool true)] else x)
        | some none => match zeroA P e with
          | some z => some (if ok then .tup [z, .v (.bool false)] else z)
          | none => none
        | none => none) = some a → ∃ r : Option (Nat × Value), Instr.findNow d kv fs 0 = some r ∧ ∃ v, ((match r with | some (_, v) => pure (v, true) | none => do pure (← zeroValue e, false)) : Sem (Value × Bool)).run P k.w = .ok v k.w ∧ Rel k a (if ok then .tuple #[v.1, .bool v.2] else v.1) := by
    intro es fs hr h
    split at h
    · rename_i j x b hf
      cases h
      rcases findA_good hr hf with ⟨h', _⟩ | ⟨j', x', b', f, h1, h2, h3, h4, h5, h6, h7⟩
      · cases h'
      · cases h1
        refine ⟨_, h2, (f.val, true), rfl, ?_⟩
        cases ok
        · exact h4
        · exact rel_tup2 h4 rel_bool
    · rename_i hf
      split at h
      · rename_i z hz
        cases h
        obtain ⟨i, zv, g1, g2, g3⟩ := zeroA_good (k := k) hz
        rcases findA_good hr hf with ⟨_, h2⟩ | ⟨j', x', b', f, h1, _⟩
        · refine ⟨_, h2, (zv, false), by simp [run_zeroValue' g1 g2], ?_⟩
          cases ok
          · exact g3
          · exact rel_tup2 g3 rel_bool
        · cases h1
      · cases h
    · cases h
  split at h
  case h_2 => cases h
  rename_i es hes
  split at hes
  · cases hes
    obtain rfl := rel_v_inv hm
    obtain ⟨r, g1, v, g2, g3⟩ := key (es := []) (fs := []) ⟨rfl, fun j e f h => by simp at h⟩ h
    refine ⟨_, ?_, g3⟩
    have hf := run_findKey (P := P) (w := k.w) h2 g1
    simp only [Instr.lookup, Sem.run_bind, run_underlying h1, Result.andThen_ok, Sem.run_pure, h3]
    simp only [hf, Result.andThen_ok]
    cases r with
    | none =>
      simp only [Sem.run_bind, Sem.run_pure] at g2 ⊢
      cases hz : (zeroValue e).run P k.w with
      | ok z w' => rw [hz] at g2; simp only [Result.andThen_ok] at g2 ⊢; cases g2; rfl
      | halt _ _ => rw [hz] at g2; simp at g2
    | some y => obtain ⟨j, y⟩ := y; simp only [Sem.run_pure] at g2; cases g2; rfl
  · rename_i b
    obtain ⟨c, rfl, hb⟩ := mp_inv hm
    split at hes
    · rename_i es' clock hg
      cases hes
      obtain ⟨fs, f1, f2⟩ := hI.mapAt hg hb
      obtain ⟨r, g1, v, g2, g3⟩ := key f2 h
      refine ⟨_, ?_, g3⟩
      have hf := run_findKey (P := P) (w := k.w) h2 g1
      simp only [Instr.lookup, Sem.run_bind, run_underlying h1, Result.andThen_ok, run_getMap f1, Sem.run_pure, h3, hf]
      cases r with
      | none =>
        simp only [Sem.run_bind, Sem.run_pure] at g2 ⊢
        cases hz : (zeroValue e).run P k.w with
        | ok z w' => rw [hz] at g2; simp only [Result.andThen_ok] at g2 ⊢; cases g2; rfl
        | halt _ _ => rw [hz] at g2; simp at g2
      | some y => obtain ⟨j, y⟩ := y; simp only [Sem.run_pure] at g2; cases g2; rfl
    · cases hes
  · cases hes
end
end Go.DM
namespace Go.DM
open Go Go.RowKit

section
variable {P : Program} {w0 : World} {σ σ' : St} {k : K}

theorem ba_eq {a b : ByteArray} (h : (a == b) = true) : a = b := by
  obtain ⟨a⟩ := a; obtain ⟨b⟩ := b
  have : (a == b) = true := h
  simp at this; subst this; rfl
theorem ba_refl (a : ByteArray) : (a == a) = true := by
  obtain ⟨a⟩ := a
  show (a == a) = true
  simp
theorem sameKey_eq {d : TypeDesc} {x y : Value} (h : sameKey d x y = some true) : x = y := by
  unfold sameKey at h
  split at h
  · rename_i a b c e
    by_cases hk : b = e
    · subst hk; simp at h; subst h; rfl
    · simp [hk] at h
  · simp only [Option.some.injEq] at h; rw [ba_eq h]
  · simp at h; subst h; rfl
  · cases h
theorem sameKey_bits {d : TypeDesc} {x y : Value} (h : sameKey d x y = some true) : ∀ n, Instr.sameBits n y x = true := by
  obtain rfl := sameKey_eq h
  unfold sameKey at h
  split at h
  · intro n; cases n <;> simp [Instr.sameBits]
  · intro n; cases n <;> simp [Instr.sameBits, ba_refl]
  · intro n; cases n <;> simp [Instr.sameBits]
  · cases h
theorem run_keyThatStays {d : TypeDesc} {x y : Value} (h : sameKey d x y = some true) (w : World) : (Instr.keyThatStays y x).run P w = .ok x w := by
  unfold Instr.keyThatStays
  rw [sameKey_bits h]; rfl

theorem esRel_modify {es : List (Value × A × Nat)} {fs : List MapEntry} (hr : EsRel k es fs) {i b : Nat} {kv : Value} {x : A} {e : Value × A × Nat} (he : es[i]? = some e) (hb : e.2.2 = b) (g : MapEntry → MapEntry)
    (hg : ∀ f, fs[i]? = some f → (g f).key = kv ∧ (g f).born = b ∧ Rel k x (g f).val) : EsRel k (setVal es i kv x) (fs.toArray.modify i g).toList := by
  have h0 : setVal es i kv x = es.set i (kv, x, b) := by
    obtain ⟨a, y, c⟩ := e
    simp only at hb; subst hb
    simp [setVal, he]
  rw [h0]
  refine ⟨by simp [hr.1], fun j e' f he' hf => ?_⟩
  have hlt := lt_of_get he
  rw [Array.getElem?_toList, Array.getElem?_modify] at hf
  rw [List.getElem?_set] at he'
  by_cases hij : i = j
  · subst hij
    rw [if_pos rfl, if_pos hlt] at he'
    cases he'
    rw [if_pos rfl] at hf
    have hlt' : i < fs.length := by rw [← hr.1]; exact hlt
    simp [hlt'] at hf
    subst hf
    exact hg _ (List.getElem?_eq_getElem hlt')
  · rw [if_neg hij] at he' hf
    exact hr.2 j e' f he' (by simpa using hf)
theorem esRel_push {es : List (Value × A × Nat)} {fs : List MapEntry} (hr : EsRel k es fs) {kv : Value} {x : A} {u : Value} {b : Nat} (hx : Rel k x u) : EsRel k (es ++ [(kv, x, b)]) (fs.toArray.push { key := kv, val := u, born := b }).toList := by
  refine ⟨by simp [hr.1], fun j e' f he' hf => ?_⟩
  rw [Array.getElem?_toList, Array.getElem?_push] at hf
  rw [List.getElem?_append] at he'
  by_cases hj : j < es.length
  · rw [if_pos hj] at he'
    rw [if_neg (by simp [← hr.1]; omega)] at hf
    exact hr.2 j e' f he' (by simpa using hf)
  · rw [if_neg hj] at he'
    have hj' : j = es.length := by
      have := lt_of_get he'
      simp at this; omega
    subst hj'
    simp at he'
    subst he'
    rw [if_pos (by simp [hr.1])] at hf
    cases hf
    exact ⟨rfl, rfl, hx⟩

theorem Inv.setMap (hI : Inv w0 σ k) {b c clock clock' : Nat} {es es' : List (Value × A × Nat)} {fs' : Array MapEntry} (hg : σ.blks.get b = some (.map es clock)) (hb : k.blk b = some c) (hr : EsRel k es' fs'.toList) :
    Inv w0 (σ.put b (.map es' clock')) (k.wd (k.w.setO c (.map fs' clock'))) ∧ k.le (k.wd (k.w.setO c (.map fs' clock'))) :=
  hI.setObj hg hb ⟨fs'.toList, by simp, hr⟩ (fun _ _ h => by cases h)

theorem updateOp_good (hI : Inv w0 σ k) {t : TypeId} {m kx x : A} {mv kv xv : Value} (hm : Rel k m mv) (hk : Rel k kx kv) (hx : Rel k x xv) (h : updateOp P t m kx x σ = some σ') :
    ∃ k', (Instr.mapUpdate t mv kv xv).run P k.w = .ok () k'.w ∧ Inv w0 σ' k' ∧ k.le k' := by
  unfold updateOp at h
  split at h
  case h_2 => cases h
  rename_i d e b kv' hd
  obtain rfl := rel_v_inv hk
  obtain ⟨c, rfl, hb⟩ := mp_inv hm
  obtain ⟨kt, h1, h2, h3, h4⟩ := keyDesc_good hd
  split at h
  case isFalse => cases h
  split at h
  case h_2 => cases h
  rename_i es clock hg
  obtain ⟨fs, f1, f2⟩ := hI.mapAt hg hb
  split at h
  · rename_i i y c' hf
    cases h
    rcases findA_good f2 hf with ⟨h', _⟩ | ⟨j, x', b', f, g1, g2, g3, g4, g5, g6, e, g7, g8⟩
    · cases h'
    · cases g1
      rw [Nat.zero_add] at g2
      have hfk := run_findKey (P := P) (w := k.w) h2 g2
      have hr : EsRel k (setVal es j kv x) (fs.toArray.modify j fun e => { e with key := kv, val := xv }).toList := by
        refine esRel_modify f2 (b := c') g7 (by rw [g8]) _ (fun f' hf' => ?_)
        rw [g3] at hf'; cases hf'
        exact ⟨rfl, g5, hx⟩
      obtain ⟨q1, q2⟩ := hI.setMap (clock' := clock) hg hb hr
      rw [Nat.zero_add]
      refine ⟨_, ?_, q1, q2⟩
      simp only [Instr.mapUpdate, Sem.run_bind, run_underlying h1, Result.andThen_ok, run_getMap f1, h3, hfk]
      simp only [List.getElem?_toArray, g3, Option.map_some, Option.getD_some]
      rw [run_keyThatStays g6]
      simp only [Result.andThen_ok, run_setMap _ f1]
      rfl
  · rename_i hf
    cases h
    rcases findA_good f2 hf with ⟨_, g2⟩ | ⟨j, x', b', f, g1, _⟩
    · have hfk := run_findKey (P := P) (w := k.w) h2 g2
      obtain ⟨q1, q2⟩ := hI.setMap (clock' := clock + 1) hg hb (esRel_push f2 (kv := kv) (b := clock) hx)
      refine ⟨_, ?_, q1, q2⟩
      simp only [Instr.mapUpdate, Sem.run_bind, run_underlying h1, Result.andThen_ok, run_getMap f1, h3, hfk, run_setMap _ f1]
      rfl
    · cases g1
  · cases h

theorem entryOp_good (hI : Inv w0 σ k) {t : TypeId} {m kx a : A} {mv kv : Value} (hm : Rel k m mv) (hk : Rel k kx kv) (h : entryOp P t m kx σ = some (a, σ')) :
    ∃ k' v, (Instr.mapEntry t mv kv).run P k.w = .ok v k'.w ∧ Rel k' a v ∧ Inv w0 σ' k' ∧ k.le k' := by
  unfold entryOp at h
  split at h
  case h_2 => cases h
  rename_i d e b kv' hd
  obtain rfl := rel_v_inv hk
  obtain ⟨c, rfl, hb⟩ := mp_inv hm
  obtain ⟨kt, h1, h2, h3, h4⟩ := keyDesc_good hd
  split at h
  case isFalse => cases h
  split at h
  case h_2 => cases h
  rename_i es clock hg
  obtain ⟨fs, f1, f2⟩ := hI.mapAt hg hb
  split at h
  · rename_i i y c' hf
    cases h
    rcases findA_good f2 hf with ⟨h', _⟩ | ⟨j, x', b', f, g1, g2, g3, g4, g5, g6, e', g7, g8⟩
    · cases h'
    · cases g1
      rw [Nat.zero_add] at g2
      have hfk := run_findKey (P := P) (w := k.w) h2 g2
      have hr : EsRel k (setVal es j kv y) (fs.toArray.modify j fun e => { e with key := kv }).toList := by
        refine esRel_modify f2 (b := c') g7 (by rw [g8]) _ (fun f' hf' => ?_)
        rw [g3] at hf'; cases hf'
        exact ⟨rfl, g5, g4⟩
      obtain ⟨q1, q2⟩ := hI.setMap (clock' := clock) hg hb hr
      rw [Nat.zero_add]
      refine ⟨_, .tuple #[f.val, .int .i64 (c' : Nat)], ?_, rel_tup2 (g4.mono q2) rel_int, q1, q2⟩
      simp only [Instr.mapEntry, Sem.run_bind, run_underlying h1, Result.andThen_ok, run_getMap f1, h3, hfk]
      simp only [List.getElem?_toArray, g3, Option.map_some, Option.getD_some]
      rw [run_keyThatStays g6]
      simp only [Result.andThen_ok, run_setMap _ f1, g5, goInt, Sem.run_pure]
      rfl
  · rename_i hf
    split at h
    case h_2 => cases h
    rename_i z hz
    cases h
    obtain ⟨i, zv, z1, z2, z3⟩ := zeroA_good (k := k) hz
    rcases findA_good f2 hf with ⟨_, g2⟩ | ⟨j, x', b', f, g1, _⟩
    · have hfk := run_findKey (P := P) (w := k.w) h2 g2
      obtain ⟨q1, q2⟩ := hI.setMap (clock' := clock + 1) hg hb (esRel_push f2 (kv := kv) (b := clock) z3)
      refine ⟨_, .tuple #[zv, .int .i64 (clock : Nat)], ?_, rel_tup2 (z3.mono q2) rel_int, q1, q2⟩
      simp only [Instr.mapEntry, Sem.run_bind, run_underlying h1, Result.andThen_ok, run_getMap f1, h3, hfk, run_zeroValue' z1 z2, run_setMap _ f1, goInt, Sem.run_pure]
      rfl
    · cases g1
  · cases h

theorem bornAt_good {es : List (Value × A × Nat)} {fs : List MapEntry} (hr : EsRel k es fs) {n : Int} {i : Nat} (h : bornAt es n = some i) : fs.toArray.findIdx? (fun e => (e.born : Int) == n) = some i := by
  unfold bornAt at h
  rw [List.findIdx?_toArray]
  rw [← h]
  clear h
  induction es generalizing fs with
  | nil =>
    have : fs = [] := List.eq_nil_of_length_eq_zero (by simpa using hr.1.symm)
    subst this; rfl
  | cons e es ih =>
    match fs, hr with
    | f :: fs, hr =>
      obtain ⟨_, h2, _⟩ := hr.2 0 _ f rfl rfl
      have hr' : EsRel k es fs := ⟨by simpa using hr.1, fun j a c ha hc => hr.2 (j + 1) a c (by simpa using ha) (by simpa using hc)⟩
      simp only [List.findIdx?_cons, h2, ih hr']
theorem entryStoreOp_good (hI : Inv w0 σ k) {t : TypeId} {m s x : A} {mv sv xv : Value} (hm : Rel k m mv) (hs : Rel k s sv) (hx : Rel k x xv) (h : entryStoreOp m s x σ = some σ') :
    ∃ k', (Instr.entryStore t mv sv xv).run P k.w = .ok () k'.w ∧ Inv w0 σ' k' ∧ k.le k' := by
  unfold entryStoreOp at h
  split at h
  case h_2 => cases h
  rename_i b kd n
  obtain rfl := rel_v_inv hs
  obtain ⟨c, rfl, hb⟩ := mp_inv hm
  split at h
  case h_2 => cases h
  rename_i es clock hg
  obtain ⟨fs, f1, f2⟩ := hI.mapAt hg hb
  split at h
  case h_2 => cases h
  rename_i i hi
  split at h
  case h_2 => cases h
  rename_i key y bo he
  cases h
  have hr : EsRel k (setVal es i key x) (fs.toArray.modify i fun e => { e with val := xv }).toList := by
    refine esRel_modify f2 (b := bo) he rfl _ (fun f' hf' => ?_)
    obtain ⟨q1, q2, _⟩ := f2.2 i _ f' he hf'
    exact ⟨q1, q2, hx⟩
  obtain ⟨q1, q2⟩ := hI.setMap (clock' := clock) hg hb hr
  refine ⟨_, ?_, q1, q2⟩
  simp only [Instr.entryStore, Sem.run_bind, run_getMap f1, Result.andThen_ok, asInt, asIntOf, Sem.run_pure, bornAt_good f2 hi, run_setMap _ f1]
  rfl

theorem esRel_erase {es : List (Value × A × Nat)} {fs : List MapEntry} (hr : EsRel k es fs) (i : Nat) : EsRel k (es.eraseIdx i) (fs.toArray.eraseIdxIfInBounds i).toList := by
  have h0 : (fs.toArray.eraseIdxIfInBounds i).toList = fs.eraseIdx i := by
    simp
  rw [h0]
  refine ⟨by simp [List.length_eraseIdx, hr.1], fun j e f he hf => ?_⟩
  rw [List.getElem?_eraseIdx] at he hf
  split at he
  · rename_i hj; rw [if_pos hj] at hf; exact hr.2 j e f he hf
  · rename_i hj; rw [if_neg hj] at hf; exact hr.2 _ e f he hf
theorem deleteOp_good (hI : Inv w0 σ k) {ats : Array TypeId} {ty t : TypeId} {m kx : A} {mv kv : Value} (h0 : ats[0]? = some t) (hm : Rel k m mv) (hk : Rel k kx kv) (h : deleteOp P t m kx σ = some σ') :
    ∃ k', (Builtin.delete_ ats ty #[mv, kv]).run P k.w = .ok (.tuple #[]) k'.w ∧ Inv w0 σ' k' ∧ k.le k' := by
  unfold deleteOp at h
  split at h
  case h_2 => cases h
  rename_i d e b kv' hd
  obtain rfl := rel_v_inv hk
  obtain ⟨c, rfl, hb⟩ := mp_inv hm
  obtain ⟨kt, h1, h2, h3, h4⟩ := keyDesc_good hd
  split at h
  case isFalse => cases h
  split at h
  case h_2 => cases h
  rename_i es clock hg
  obtain ⟨fs, f1, f2⟩ := hI.mapAt hg hb
  split at h
  · rename_i i y c' hf
    cases h
    rcases findA_good f2 hf with ⟨h', _⟩ | ⟨j, x', b', f, g1, g2, g3, g4, g5, g6, e', g7, g8⟩
    · cases h'
    · cases g1
      rw [Nat.zero_add] at g2
      have hfk := run_findKey (P := P) (w := k.w) h2 g2
      obtain ⟨q1, q2⟩ := hI.setMap (clock' := clock) hg hb (esRel_erase f2 j)
      rw [Nat.zero_add]
      refine ⟨_, ?_, q1, q2⟩
      simp [Builtin.delete_, h0, run_underlying h1, run_getMap f1, h3, hfk, run_setMap _ f1]
      rfl
  · rename_i hf
    cases h
    rcases findA_good f2 hf with ⟨_, g2⟩ | ⟨j, x', b', f, g1, _⟩
    · have hfk := run_findKey (P := P) (w := k.w) h2 g2
      obtain ⟨q1, q2⟩ := hI.setMap (clock' := clock) hg hb (fs' := fs.toArray) (by simpa using f2)
      refine ⟨_, ?_, q1, q2⟩
      simp [Builtin.delete_, h0, run_underlying h1, run_getMap f1, h3, hfk, run_setMap _ f1]
      rfl
    · cases g1
  · cases h

theorem rangeOp_good (hI : Inv w0 σ k) {t : TypeId} {x a : A} {u : Value} (hx : Rel k x u) (h : rangeOp P t x σ = some (a, σ')) :
    ∃ k' v, (Instr.range t u).run P k.w = .ok v k'.w ∧ Rel k' a v ∧ Inv w0 σ' k' ∧ k.le k' := by
  unfold rangeOp at h
  split at h
  case h_3 => cases h
  · rename_i s hu
    cases h
    obtain rfl := rel_v_inv hx
    obtain ⟨q1, q2, q3⟩ := hI.push (x := .siter s 0) (o := .stringIter s 0) rfl
    refine ⟨_, .pointer (some ⟨k.w.heap.size, 0, none⟩), ?_, .ptr q3, q1, q2⟩
    simp [Instr.range, run_underlying hu]
    rfl
  · rename_i b hu
    split at h
    case h_2 => cases h
    rename_i es clock hg
    cases h
    cases hx with
    | @mp _ c hb =>
    obtain ⟨c', o, h1, h2, h3, h4, h5⟩ := hI.blk b _ hg
    rw [hb] at h1; cases h1
    obtain ⟨fs, rfl, hes⟩ := h5
    have hget : (getObj c).run P k.w = .ok (.map fs.toArray clock) k.w := by simp [getObj, Sem.run, h4]
    obtain ⟨q1, q2, q3⟩ := hI.push (x := .miter b clock [] clock) (o := .mapIter (some c) clock #[] clock) ⟨c, hb, rfl⟩
    refine ⟨_, .pointer (some ⟨k.w.heap.size, 0, none⟩), ?_, .ptr q3, q1, q2⟩
    simp only [Instr.range, Sem.run_bind, run_underlying hu, Result.andThen_ok, hget, Sem.run_pure]
    rfl
/-- a filter over entries that stand for each other -/
theorem esRel_filter {es : List (Value × A × Nat)} {fs : List MapEntry} (h : EsRel k es fs) (p : Nat → Bool) : EsRel k (es.filter fun e => p e.2.2) (fs.filter fun f => p f.born) := by
  induction es generalizing fs with
  | nil =>
    obtain ⟨h1, _⟩ := h
    cases fs with
    | nil => exact ⟨rfl, fun j e f he => by simp at he⟩
    | cons f r => cases h1
  | cons e r ih =>
    obtain ⟨h1, h2⟩ := h
    cases fs with
    | nil => cases h1
    | cons f q =>
      have hr : EsRel k r q := ⟨by simpa using h1, fun j x y hx hy => h2 (j + 1) x y (by simpa using hx) (by simpa using hy)⟩
      obtain ⟨e1, e2, e3⟩ := h2 0 e f rfl rfl
      obtain ⟨g1, g2⟩ := ih hr
      simp only [List.filter_cons, e2]
      cases p e.2.2 with
      | false => exact ⟨g1, g2⟩
      | true =>
        refine ⟨by simp [g1], fun j x y hx hy => ?_⟩
        cases j with
        | zero => simp at hx hy; subst hx; subst hy; exact ⟨e1, e2, e3⟩
        | succ j => simp at hx hy; exact g2 j x y hx hy
theorem esRel_all {es : List (Value × A × Nat)} {fs : List MapEntry} (h : EsRel k es fs) (p : Nat → Bool) : (es.all fun e => p e.2.2) = (fs.all fun f => p f.born) := by
  induction es generalizing fs with
  | nil =>
    obtain ⟨h1, _⟩ := h
    cases fs with
    | nil => rfl
    | cons f r => cases h1
  | cons e r ih =>
    obtain ⟨h1, h2⟩ := h
    cases fs with
    | nil => cases h1
    | cons f q =>
      have hr : EsRel k r q := ⟨by simpa using h1, fun j x y hx hy => h2 (j + 1) x y (by simpa using hx) (by simpa using hy)⟩
      obtain ⟨_, e2, _⟩ := h2 0 e f rfl rfl
      simp only [List.all_cons, e2, ih hr]
theorem nextMap_good (hI : Inv w0 σ k) {b m since last clock c r : Nat} {seen : List Nat} {es : List (Value × A × Nat)} {a : A} {ty : TypeId} (hb : k.blk b = some r) (hg : σ.blks.get b = some (.miter m since seen last)) (hm : k.blk m = some c) (hgm : σ.blks.get m = some (.map es clock)) (h : nextMap σ b m since seen last es clock = some (a, σ')) :
    ∃ k' v, (Instr.next (.pointer (some ⟨r, 0, none⟩)) false ty).run P k.w = .ok v k'.w ∧ Rel k' a v ∧ Inv w0 σ' k' ∧ k.le k' := by
  obtain ⟨c', o, h1, h2, h3, h4, h5⟩ := hI.blk b _ hg
  rw [hb] at h1; cases h1
  obtain ⟨c0, hm0, rfl⟩ := h5
  rw [hm] at hm0; cases hm0
  obtain ⟨c', o, h1, _, _, h6, h7⟩ := hI.blk m _ hgm
  rw [hm] at h1; cases h1
  obtain ⟨fs, rfl, hes⟩ := h7
  have hget : (getObj r).run P k.w = .ok (.mapIter (some c) since seen.toArray last) k.w := by simp [getObj, Sem.run, h4]
  have hgetm : (getObj c).run P k.w = .ok (.map fs.toArray clock) k.w := by simp [getObj, Sem.run, h6]
  unfold nextMap at h
  split at h
  · cases h
  rename_i hno
  have hno' : ¬ ((!seen.toArray.isEmpty && !fs.toArray.isEmpty && fs.toArray.all fun x => decide (x.born ≥ last)) = true) := by
    intro hx
    apply hno
    have e1 : es.isEmpty = fs.isEmpty := by cases es <;> cases fs <;> first | rfl | (have := hes.1; cases this)
    have e2 := esRel_all hes (fun n => decide (last ≤ n))
    simpa [e1, e2, List.all_eq_true] using hx
  have hfil := esRel_filter hes (fun n => !seen.contains n)
  have hleft : (fs.toArray.filter fun e => !seen.toArray.contains e.born) = (fs.filter fun e => !seen.contains e.born).toArray := by simp
  split at h
  · rename_i hnil
    cases h
    have hn : (fs.filter fun e => !seen.contains e.born) = [] := by
      have := hfil.1; rw [hnil] at this; exact List.eq_nil_of_length_eq_zero this.symm
    refine ⟨k, .tuple #[.bool false], ?_, ?_, hI, K.le.refl k⟩
    · simp only [Instr.next, Sem.run_bind, hget, hgetm, Result.andThen_ok, if_neg hno', hleft, hn]
      have ho : ∀ p : MapEntry → Bool, (Array.filter p #[]) = #[] := fun p => by simp
      simp only [ho]
      simp [choose, Sem.run, Question.forced]
    · have := RelL.cons (k := k) (rel_bool (b := false)) (RelL.nil _)
      exact .tup this.1 this.2
  · rename_i e hone
    split at h
    case isFalse => cases h
    rename_i hlt
    split at h
    case h_2 => cases h
    rename_i ka hka
    cases h
    obtain ⟨f, hn⟩ : ∃ f, (fs.filter fun e => !seen.contains e.born) = [f] := by
      have hl := hfil.1
      rw [hone] at hl
      exact List.length_eq_one_iff.1 hl.symm
    obtain ⟨e1, e2, e3⟩ := hfil.2 0 e f (by rw [hone]; rfl) (by rw [hn]; rfl)
    obtain ⟨q1, q2⟩ := hI.setObj (x' := .miter m since (seen ++ [e.2.2]) clock) (o' := .mapIter (some c) since (seen ++ [e.2.2]).toArray clock) hg hb ⟨c, hm, rfl⟩ (fun _ _ h => by cases h)
    have hset : (setObj r (.mapIter (some c) since (seen ++ [e.2.2]).toArray clock)).run P k.w = .ok () (k.w.setO r (.mapIter (some c) since (seen ++ [e.2.2]).toArray clock)) := by simp [setObj, Sem.run, h4, World.setO]
    refine ⟨_, .tuple #[.bool true, f.key, f.val], ?_, ?_, q1, q2⟩
    · simp only [Instr.next, Sem.run_bind, hget, hgetm, Result.andThen_ok, if_neg hno', hleft, hn]
      have hb1 : f.born < since := by rw [e2]; exact hlt
      have hb2 : ¬ (f.born ≥ since) := by omega
      have hold : ((#[f] : Array MapEntry).filter fun x => decide (x.born < since)) = #[f] := by simp [hb1]
      have hnew : ((#[f] : Array MapEntry).filter fun x => decide (x.born ≥ since)) = #[] := by simp [hb2]
      rw [hold, hnew]
      simp [choose, Sem.run, Question.forced]
      rw [e2, hset]
      rfl
    · have hk : Rel k ka f.key := by rw [e1]; exact ofVal_rel hka
      have := RelL.cons (k := k) (rel_bool (b := true)) (RelL.cons hk (RelL.cons e3 (RelL.nil _)))
      have := this.mono q2
      exact .tup this.1 this.2
  · cases h
theorem nextOp_good (hI : Inv w0 σ k) {x a : A} {u : Value} {isS : Bool} {ty : TypeId} (hx : Rel k x u) (h : nextOp x isS σ = some (a, σ')) :
    ∃ k' v, (Instr.next u isS ty).run P k.w = .ok v k'.w ∧ Rel k' a v ∧ Inv w0 σ' k' ∧ k.le k' := by
  unfold nextOp at h
  split at h
  case h_3 => cases h
  case h_2 =>
    rename_i b
    cases hx with
    | @ptr _ _ c hb =>
    split at h
    case h_2 => cases h
    rename_i m since seen last hg
    split at h
    case h_2 => cases h
    rename_i es clock hgm
    obtain ⟨_, _, _, _, _, _, hc0, hm0, _⟩ := hI.blk b _ hg
    exact nextMap_good hI hb hg hm0 hgm h
  rename_i b
  cases hx with
  | @ptr _ _ c hb =>
  split at h
  case h_2 => cases h
  rename_i s pos hg
  obtain ⟨c', o, h1, h2, h3, h4, h5⟩ := hI.blk b _ hg
  rw [hb] at h1; cases h1
  have h5' : o = .stringIter s pos := h5
  subst h5'
  have hget : (getObj c).run P k.w = .ok (.stringIter s pos) k.w := by simp [getObj, Sem.run, h4]
  split at h
  · rename_i hlt
    cases h
    obtain ⟨q1, q2⟩ := hI.setObj (x' := .siter s (pos + (Utf8.decode s pos).2)) (o' := .stringIter s (pos + (Utf8.decode s pos).2)) hg hb rfl (fun _ _ h => by cases h)
    have hset : (setObj c (.stringIter s (pos + (Utf8.decode s pos).2))).run P k.w = .ok () (k.w.setO c (.stringIter s (pos + (Utf8.decode s pos).2))) := by simp [setObj, Sem.run, h4, World.setO]
    refine ⟨_, .tuple #[.bool true, .int .i64 (pos : Nat), .int .i32 (Utf8.decode s pos).1], ?_, ?_, q1, q2⟩
    · simp only [Instr.next, Sem.run_bind, hget, Result.andThen_ok, if_pos hlt, hset, Sem.run_pure, goInt]
      rfl
    · have := RelL.cons (k := k.wd (k.w.setO c (.stringIter s (pos + (Utf8.decode s pos).2)))) (rel_bool (b := true)) (RelL.cons (rel_int (i := .i64) (n := ((pos : Nat) : Int))) (RelL.cons (rel_int (i := .i32) (n := (Utf8.decode s pos).1)) (RelL.nil _)))
      exact .tup this.1 this.2
  · rename_i hlt
    cases h
    refine ⟨k, .tuple #[.bool false], ?_, ?_, hI, K.le.refl k⟩
    · simp only [Instr.next, Sem.run_bind, hget, Result.andThen_ok, if_neg hlt, Sem.run_pure]
    · have := RelL.cons (k := k) (rel_bool (b := false)) (RelL.nil _)
      exact .tup this.1 this.2
theorem esRel_find {es : List (Value × A × Nat)} {fs : List MapEntry} (h : EsRel k es fs) (p : Nat → Bool) : match es.find? (fun e => p e.2.2), fs.find? (fun f => p f.born) with
    | none, none => True
    | some e, some f => f.key = e.1 ∧ Rel k e.2.1 f.val
    | _, _ => False := by
  induction es generalizing fs with
  | nil =>
    obtain ⟨h1, _⟩ := h
    cases fs with
    | nil => trivial
    | cons f r => cases h1
  | cons e r ih =>
    obtain ⟨h1, h2⟩ := h
    cases fs with
    | nil => cases h1
    | cons f q =>
      have hr : EsRel k r q := ⟨by simpa using h1, fun j x y hx hy => h2 (j + 1) x y (by simpa using hx) (by simpa using hy)⟩
      obtain ⟨e1, e2, e3⟩ := h2 0 e f rfl rfl
      rw [List.find?_cons, List.find?_cons, e2]
      cases p e.2.2 with
      | true => exact ⟨e1, e3⟩
      | false => exact ih hr
theorem iterEntry_good (hI : Inv w0 σ k) {x a : A} {u : Value} (hx : Rel k x u) (h : iterEntry x σ = some a) :
    ∃ v, (Instr.entry u).run P k.w = .ok v k.w ∧ Rel k a v := by
  unfold iterEntry at h
  split at h
  case h_2 => cases h
  rename_i b
  cases hx with
  | @ptr _ _ r hb =>
  split at h
  case h_2 => cases h
  rename_i m since seen stepped hg
  split at h
  case h_2 => cases h
  rename_i es clock stamp hgm hst
  split at h
  case isFalse => cases h
  rename_i hcl
  split at h
  case h_2 => cases h
  rename_i e hf
  split at h
  case h_2 => cases h
  rename_i ka hka
  cases h
  obtain ⟨c', o, h1, h2, h3, h4, h5⟩ := hI.blk b _ hg
  rw [hb] at h1; cases h1
  obtain ⟨c, hm, rfl⟩ := h5
  obtain ⟨c', o, h1, _, _, h6, h7⟩ := hI.blk m _ hgm
  rw [hm] at h1; cases h1
  obtain ⟨fs, rfl, hes⟩ := h7
  have hget : (getObj r).run P k.w = .ok (.mapIter (some c) since seen.toArray stepped) k.w := by simp [getObj, Sem.run, h4]
  have hgetm : (getObj c).run P k.w = .ok (.map fs.toArray clock) k.w := by simp [getObj, Sem.run, h6]
  have hback : seen.toArray.back? = some stamp := by rw [List.back?_toArray]; exact hst
  have hfind := esRel_find hes (fun n => n == stamp)
  rw [hf] at hfind
  cases hq : fs.find? (fun f => f.born == stamp) with
  | none => rw [hq] at hfind; exact hfind.elim
  | some f =>
    rw [hq] at hfind
    obtain ⟨e1, e3⟩ := hfind
    have hne : ¬ ((clock != stepped) = true) := by simp [hcl]
    have hq2 : fs.toArray.find? (fun f => f.born == stamp) = some f := by rw [List.find?_toArray]; exact hq
    refine ⟨.tuple #[f.key, f.val], ?_, ?_⟩
    · simp only [Instr.entry, Sem.run_bind, hget, hgetm, hback, Result.andThen_ok, if_neg hne, hq2, Sem.run_pure]
    · have hk : Rel k ka f.key := by rw [e1]; exact ofVal_rel hka
      have := RelL.cons hk (RelL.cons e3 (RelL.nil _))
      exact .tup this.1 this.2
end
end Go.DM
namespace Go.DM
open Go Go.RowKit

section
variable {C : Cfg} {P : Program} {w0 : World} {σ σ' : St} {k : K} {r : R}

theorem run_enter {f : FuncId} {fn : Func} (hf : P.funcs[f]? = some fn) (hn : fn.name ≠ "runtime.NumGoroutine") (hb : fn.body.isSome = true) (args : Array Value) (w : World) :
    (callFunc f args).run P w = .ok (.enter f args) w := by
  obtain ⟨c, hc⟩ := Option.isSome_iff_exists.1 hb
  simp [callFunc, hf, hn, hc]

theorem find_row {fn : Func} {n : String} (hn : fn.name = n) (ho : fn.origin = "") (h1 : Extern.allNextRows.lookup n = none) (h2 : Extern.allNextRows.lookup "" = none) : Extern.findNext fn = none := by
  simp [Extern.findNext, hn, ho, h1, h2]
theorem find_plain {fn : Func} {n : String} {e : Array Value → Sem Value} (hn : fn.name = n) (h1 : Extern.allGenericRows.lookup n = none) (h2 : Extern.allTypedRows.lookup n = none) (h3 : Extern.allRows.lookup n = some e) : Extern.find fn = some e := by
  simp [Extern.find, hn, h1, h2, h3]
theorem find_typed {fn : Func} {n : String} {e : Array TypeId → Array TypeId → Array Value → Sem Value} (hn : fn.name = n) (h1 : Extern.allGenericRows.lookup n = none) (h2 : Extern.allTypedRows.lookup n = some e) : Extern.find fn = some (e fn.params fn.resultTypes) := by
  simp [Extern.find, hn, h1, h2]

theorem noEscape_run {f : FuncId} {fn : Func} (hf : P.funcs[f]? = some fn) (hn : fn.name ≠ "runtime.NumGoroutine") (hb : fn.body.isSome = false) (h1 : fn.name = "internal/abi.NoEscape") (h2 : fn.origin = "") (u : Value) (w : World) :
    (callFunc f #[u]).run P w = .ok (.value u) w := by
  have hb' : fn.body.isNone = true := by cases h : fn.body <;> simp_all
  rw [run_callFunc_extern hf (by simpa using hn) hb' (find_row h1 h2 (by kernel_rfl) (by kernel_rfl)) (find_plain (e := Extern.AbiNoEscape.same) h1 (by kernel_rfl) (by kernel_rfl) (by kernel_rfl))]
  rfl

theorem makeNoZero_run {f : FuncId} {fn : Func} (hf : P.funcs[f]? = some fn) (hn : fn.name ≠ "runtime.NumGoroutine") (hb : fn.body.isSome = false) (h1 : fn.name = "internal/bytealg.MakeNoZero") (h2 : fn.origin = "")
    {t e : TypeId} (ht : fn.resultTypes.toList = [t]) (hu : P.underlying t = some (.slice e)) {n : Int} (h0 : 0 ≤ n) (hm : n ≤ 281474976710656) (w : World) :
    ∃ cs : Array Value, (callFunc f #[.int .i64 n]).run P w = .ok (.value (.slice (some ⟨w.heap.size, 0, none⟩) n.toNat cs.size)) (w.drew.drew.alloc (.cells cs e)) ∧ n.toNat ≤ cs.size := by
  have hb' : fn.body.isNone = true := by cases h : fn.body <;> simp_all
  obtain ⟨m, rfl⟩ : ∃ m : Nat, n = (m : Nat) := ⟨n.toNat, by omega⟩
  obtain ⟨cs, g1, g2, _⟩ := Lib.run_makeNoZero (P := P) w fn.params t e hu m (by omega)
  refine ⟨cs, ?_, g2⟩
  have hrt : fn.resultTypes = #[t] := by
    cases hr : fn.resultTypes with
    | mk l => rw [hr] at ht; simp at ht; rw [ht]
  rw [run_callFunc_extern hf (by simpa using hn) hb' (find_row h1 h2 (by kernel_rfl) (by kernel_rfl)) (find_typed (e := Extern.BytealgMakeNoZero.makeNoZero) h1 (by kernel_rfl) (by kernel_rfl))]
  rw [hrt, g1]
  rfl

theorem callOp_good {f : FuncId} {args : List A} {us : List Value} (hI : Inv w0 σ k) (hr : RelL k args us) (h : callOp C f args σ = some r) : Good C.P w0 k ((callFunc f us.toArray).run C.P k.w) r := by
  unfold callOp at h
  split at h
  case h_2 => cases h
  rename_i fn hf
  split at h
  case isTrue => cases h
  rename_i hn
  split at h
  · rename_i hb
    cases h
    exact ⟨k, us.toArray, run_enter hf hn hb _ _, by simpa using hr, hI, K.le.refl k⟩
  rename_i hb
  have hb : fn.body.isSome = false := by simpa using hb
  split at h
  · rename_i hq
    split at h
    case h_2 => cases h
    rename_i x
    cases h
    obtain ⟨u, us', rfl, h1, h2⟩ := hr.inv_cons
    rw [h2.inv_nil]
    exact Good.here (C := C) hI (noEscape_run hf hn hb hq.1 hq.2 u k.w) h1
  split at h
  · rename_i hq
    split at h
    case h_2 => cases h
    rename_i n t ht
    split at h
    case h_2 => cases h
    rename_i e hu
    split at h
    case isFalse => cases h
    rename_i hc
    cases h
    obtain ⟨u, us', rfl, h1, h2⟩ := hr.inv_cons
    obtain rfl := rel_v_inv h1
    rw [h2.inv_nil]
    obtain ⟨cs, g1, g2⟩ := makeNoZero_run hf hn hb hq.1 hq.2 ht hu hc.1 hc.2.1 k.w
    obtain ⟨d1, d2⟩ := hI.drew
    obtain ⟨d3, d4⟩ := d1.drew
    obtain ⟨q1, q2⟩ := d3.layTok (us := cs) (e := e) (lo := 0) (hi := 0) (n := 0) (Nat.zero_le _) (.inl rfl)
    refine ⟨_, _, g1, ?_, q1, d2.trans (d4.trans q2)⟩
    refine .raw (by simp [K.layTok, K.wd]) g2 (fun _ => ⟨by simp [K.layTok, K.wd], cs, e, (0, 0), ?_, rfl⟩) ⟨0, by simp [K.layTok, K.wd]⟩
    exact heap_alloc_same _ _
  · cases h

/-- a call's operands -/
theorem opsOf_good {ρ : Operand → Option A} {ρ' : Operand → Value} (hρ : ∀ x a, ρ x = some a → Rel k a (ρ' x)) : ∀ {l : List Operand} {as : List A}, opsOf ρ l = some as → RelL k as (l.map ρ')
  | [], as, h => by simp only [opsOf] at h; cases h; exact RelL.nil k
  | x :: l, as, h => by
    simp only [opsOf] at h
    split at h
    case h_2 => cases h
    rename_i a ha
    split at h
    case h_2 => cases h
    rename_i l' hl
    cases h
    exact RelL.cons (hρ x a ha) (opsOf_good hρ hl)
theorem partsOf_good {ρ : Operand → Option A} {ρ' : Operand → Value} (hρ : ∀ x a, ρ x = some a → Rel k a (ρ' x)) : ∀ {l : List (Nat × Operand)} {as : List (Nat × A)}, partsOf ρ l = some as → PartsRel k as (l.map fun (i, x) => (i, ρ' x)) ∧ ∀ x ∈ as, x.2 ≠ .junk
  | [], as, h => by simp only [partsOf] at h; cases h; exact ⟨⟨rfl, fun j x y h => by simp at h⟩, fun x h => by simp at h⟩
  | (i, x) :: l, as, h => by
    simp only [partsOf] at h
    split at h
    case h_2 => cases h
    rename_i a ha
    split at h
    · cases h
    rename_i hj
    split at h
    case h_2 => cases h
    rename_i l' hl
    cases h
    obtain ⟨h1, h2⟩ := partsOf_good hρ hl
    refine ⟨⟨by simpa using h1.1, fun j x' y' hx hy => ?_⟩, fun x' hx => ?_⟩
    · cases j with
      | zero => simp at hx hy; subst hx; subst hy; exact ⟨rfl, hρ x a ha⟩
      | succ j => exact h1.2 j x' y' (by simpa using hx) (by simpa using hy)
    · rcases List.mem_cons.1 hx with rfl | hx
      · rintro rfl; simp [isJunk] at hj
      · exact h2 _ hx
theorem optOf_good {ρ : Operand → Option A} {ρ' : Operand → Value} (hρ : ∀ x a, ρ x = some a → Rel k a (ρ' x)) {x : Option Operand} {a : Option A} (h : optOf ρ x = some a) : OptRel k a (x.map ρ') := by
  unfold optOf at h
  split at h
  · cases h; trivial
  · split at h
    · rename_i y a' ha; cases h; exact hρ _ _ ha
    · cases h

theorem fn_inv {f : Fn} {first cap : List A} {u : Value} (h : Rel k (.fn f first cap) u) : ∃ us vs : List Value, u = .func f us.toArray vs.toArray ∧ RelL k first us ∧ RelL k cap vs := by
  cases h with
  | fn h1 h2 h3 h4 => exact ⟨_, _, rfl, ⟨h1, h3⟩, ⟨h2, h4⟩⟩
theorem ifc_inv {t : TypeId} {x : A} {u : Value} (h : Rel k (.ifc t x) u) : ∃ v, u = .iface t v ∧ Rel k x v := by
  cases h with
  | ifc h => exact ⟨_, rfl, h⟩
theorem tup_inv {vs : List A} {u : Value} (h : Rel k (.tup vs) u) : ∃ us : List Value, u = .tuple us.toArray ∧ RelL k vs us := by
  cases h with
  | tup h1 h2 => exact ⟨_, rfl, h1, h2⟩

theorem methodOf_good {t : TypeId} {name : String} {f : FuncId} (h : methodOf P t name = some f) (v : Value) (n : Nat) (w : World) : (method (n + 1) t v name).run P w = .ok (f, v) w := by
  unfold methodOf at h
  split at h
  case h_2 => cases h
  rename_i i hi
  split at h
  case h_2 => cases h
  rename_i m hm
  split at h
  case isFalse => cases h
  rename_i hp
  have hp' : m.path.toList = [] := by simpa using hp
  have hti : (typeInfo t).run P w = .ok i w := run_typeInfo' hi
  split at h
  · rename_i g e hf hu
    cases h
    simp [method, hti, hm, hp', follow, hf, receiverAt, run_underlying hu, Place.get]
  · cases h
  · rename_i g d hnp hf hu
    cases h
    simp only [method, Sem.run_bind, hti, Result.andThen_ok, hm, hp', follow, Sem.run_pure, hf, receiverAt, run_underlying hu]
    cases d <;> first | exact (hnp _ rfl).elim | simp [Place.get]
  · cases h
end
end Go.DM
namespace Go.DM
open Go Go.RowKit

section
variable {C : Cfg} {P : Program} {w0 : World} {σ σ' : St} {k : K} {r : R} {ρ : Operand → Option A} {ρ' : Operand → Value} {o : Oper}

theorem v_run {s : Sem Value} {u : Value} {w w' : World} (h : s.run P w = .ok u w') : (do pure (Next.value (← s)) : Sem Next).run P w = .ok (.value u) w' := by simp [h]
theorem u_run {s : Sem Unit} {w w' : World} (h : s.run P w = .ok () w') : (do s; pure Next.skip : Sem Next).run P w = .ok .skip w' := by simp [h]
theorem Good.vh (hI : Inv w0 σ k) {s : Sem Value} {a : A} (h : ∃ v, s.run C.P k.w = .ok v k.w ∧ Rel k a v) : Good C.P w0 k ((do pure (Next.value (← s)) : Sem Next).run C.P k.w) (.val a σ) := by
  obtain ⟨v, h1, h2⟩ := h
  exact ⟨k, v, v_run h1, h2, hI, K.le.refl k⟩
theorem Good.vn {s : Sem Value} {a : A} (h : ∃ k' v, s.run C.P k.w = .ok v k'.w ∧ Rel k' a v ∧ Inv w0 σ' k' ∧ k.le k') : Good C.P w0 k ((do pure (Next.value (← s)) : Sem Next).run C.P k.w) (.val a σ') := by
  obtain ⟨k', v, h1, h2, h3, h4⟩ := h
  exact ⟨k', v, v_run h1, h2, h3, h4⟩
theorem Good.un {s : Sem Unit} (h : ∃ k', s.run C.P k.w = .ok () k'.w ∧ Inv w0 σ' k' ∧ k.le k') : Good C.P w0 k ((do s; pure Next.skip : Sem Next).run C.P k.w) (.skip σ') := by
  obtain ⟨k', h1, h3, h4⟩ := h
  exact ⟨k', u_run h1, h3, h4⟩

theorem args1 {l : Array Operand} {x : Operand} (h : l.toList = [x]) : l.map ρ' = #[ρ' x] := by
  cases l with | mk l => simp at h; subst h; simp
theorem args2 {l : Array Operand} {x y : Operand} (h : l.toList = [x, y]) : l.map ρ' = #[ρ' x, ρ' y] := by
  cases l with | mk l => simp at h; subst h; simp
theorem args0 {l : Array Operand} (h : l.toList = []) : l.map ρ' = #[] := by
  cases l with | mk l => simp at h; subst h; simp

theorem map_arr (l : Array Operand) : l.map ρ' = (l.toList.map ρ').toArray := by
  cases l with | mk l => simp
theorem exec_builtin {c : Call} {b : Builtin} (hop : o.op = .call c) (hc : c.callee = .builtin b) : execOp ρ' o = builtin b c.argTypes o.type (c.args.map fun | .const _ => true | _ => false) (c.args.map ρ') := by
  simp only [execOp, hop, resolve, hc]
  rfl
theorem exec_value {c : Call} {f : Operand} {g : FuncId} {us vs : Array Value} (hop : o.op = .call c) (hc : c.callee = .value f) (hf : ρ' f = .func (.func g) us vs) : execOp ρ' o = callFunc g (us ++ c.args.map ρ' ++ vs) := by
  simp only [execOp, hop, resolve, hc, hf]
  rfl

theorem map_arr_invoke {c : Call} {x : Operand} {name : String} {u : Value} (hop : o.op = .call c) (hc : c.callee = .invoke x name) (hx : ρ' x = u) : execOp ρ' o = callMethod u name (c.args.map ρ') := by
  have h1 : execOp ρ' o = invoke (.fn (.method name) #[]) (#[ρ' x] ++ c.args.map ρ') := by
    simp only [execOp, hop, resolve, hc]; rfl
  have h0 : (#[ρ' x] ++ c.args.map ρ')[0]? = some u := by rw [hx, map_arr]; simp
  have h2 : (#[ρ' x] ++ c.args.map ρ').extract 1 (#[ρ' x] ++ c.args.map ρ').size = c.args.map ρ' := by
    rw [map_arr]
    simp
    rw [List.take_of_length_le (by simp)]
  rw [h1]
  simp only [invoke, h0, h2]
theorem lenSem : True := trivial

theorem builtinOp_good (hI : Inv w0 σ k) (hρ : ∀ x a, ρ x = some a → Rel k a (ρ' x)) {c : Call} {b : Builtin} (hop : o.op = .call c) (hc : c.callee = .builtin b) (h : builtinOp C ρ b c o σ = some r) :
    Good C.P w0 k ((execOp ρ' o).run C.P k.w) r := by
  have hdet : detIf C ρ o σ = some r → Good C.P w0 k ((execOp ρ' o).run C.P k.w) r := fun h => detIf_good (C := C) hI hρ (fun cs b h => by rw [hop] at h; cases h) h
  unfold builtinOp at h
  split at h
  · rename_i s x ha
    split at h
    case h_2 => cases h
    rename_i s' x' t t' h1 h2 h3 h4
    split at h
    · rename_i kd hu
      obtain ⟨a, σ', h5, rfl⟩ := wrapS_good h
      rw [exec_builtin hop hc, args2 ha]
      exact Good.vn (C := C) (appendZ_good hI h3 h4 hu (hρ _ _ h1) (hρ _ _ h2) h5)
    · rename_i d hne hu
      obtain ⟨a, σ', h5, rfl⟩ := wrapS_good h
      rw [exec_builtin hop hc, args2 ha]
      split at h5
      · exact Good.vn (C := C) (appendM_good hI h3 h4 hu (fun kd e => hne kd e) (hρ _ _ h1) (hρ _ _ h2) h5)
      · exact Good.vn (C := C) (appendOp_good hI h3 h4 hu (fun kd e => hne kd e) (hρ _ _ h1) (hρ _ _ h2) h5)
    · cases h
  · rename_i d s ha
    split at h
    case h_2 => cases h
    rename_i d' s' t h1 h2 h3
    obtain ⟨a, σ', h5, rfl⟩ := wrapS_good h
    rw [exec_builtin hop hc, args2 ha]
    exact Good.vn (C := C) (copyOp_good hI h3 (hρ _ _ h1) (hρ _ _ h2) h5)
  · rename_i x ha
    split at h
    case h_2 => cases h
    rename_i x' t h1 h3
    split at h
    · rename_i n hn
      cases h
      rw [exec_builtin hop hc, args1 ha]
      exact Good.vh (C := C) hI ⟨_, lenA_good hI h3 (hρ _ _ h1) hn, rel_int⟩
    · exact hdet h
  · rename_i ha
    cases h
    rw [exec_builtin hop hc, args0 ha]
    exact ⟨k, rfl, hI, K.le.refl k⟩
  · rename_i m kx ha
    split at h
    case h_2 => cases h
    rename_i m' k' t h1 h2 h3
    split at h
    case h_2 => cases h
    rename_i σ' h5
    cases h
    rw [exec_builtin hop hc, args2 ha]
    obtain ⟨k2, g1, g2, g3⟩ := deleteOp_good (ty := o.type) hI h3 (hρ _ _ h1) (hρ _ _ h2) h5
    exact Good.vn (C := C) ⟨k2, _, g1, rel_und, g2, g3⟩
  · rename_i x ha
    split at h
    case h_2 => cases h
    rename_i x' h1
    split at h
    · rename_i a h2
      cases h
      rw [exec_builtin hop hc, args1 ha]
      exact Good.vh (C := C) hI (sliceDataOp_good (hρ _ _ h1) h2)
    · exact hdet h
  · rename_i x n ha
    split at h
    case h_2 => cases h
    rename_i x' n' t h1 h2 h3
    split at h
    · rename_i a h5
      cases h
      rw [exec_builtin hop hc, args2 ha]
      exact Good.vn (C := C) (unsafeStringOp_good hI h3 (hρ _ _ h1) (hρ _ _ h2) h5)
    · exact hdet h
  all_goals first | cases h | exact hdet h

theorem binOp_good (_hI : Inv w0 σ k) (hρ : ∀ x a, ρ x = some a → Rel k a (ρ' x)) {t : TypeId} {x y : Operand} {x' y' : A} {q : Bool} (hq : eqA C.P t x' y' = some q) (hx : ρ x = some x') (hy : ρ y = some y') :
    ((do eqGuard .eql t x y (ρ' x) (ρ' y); binOp .eql t (ρ' x) (ρ' y)) : Sem Value).run C.P k.w = .ok (.bool q) k.w ∧ ((do eqGuard .neq t x y (ρ' x) (ρ' y); binOp .neq t (ρ' x) (ρ' y)) : Sem Value).run C.P k.w = .ok (.bool !q) k.w := by
  obtain ⟨h1, h2, h3⟩ := eqA_good (hρ _ _ hx) (hρ _ _ hy) hq
  exact ⟨by simp [h1, h2], by simp [h1, h3]⟩

set_option maxHeartbeats 2000000 in
theorem op_good (hI : Inv w0 σ k) (hρ : ∀ x a, ρ x = some a → Rel k a (ρ' x)) (h : op C ρ o σ = some r) : Good C.P w0 k ((execOp ρ' o).run C.P k.w) r := by
  have hdet : (∀ cs b, o.op ≠ .select cs b) → detIf C ρ o σ = some r → Good C.P w0 k ((execOp ρ' o).run C.P k.w) r := fun hs h => detIf_good (C := C) hI hρ hs h
  cases hop : o.op with
  | move x =>
    simp only [op, hop] at h
    obtain ⟨a, h1, rfl⟩ := wrapV_good h
    simp only [execOp, hop]
    exact Good.here (C := C) hI rfl (hρ _ _ h1)
  | assign x =>
    simp only [op, hop] at h
    obtain ⟨a, h1, rfl⟩ := wrapV_good h
    simp only [execOp, hop]
    exact Good.here (C := C) hI rfl (hρ _ _ h1)
  | pick c a b =>
    simp only [op, hop] at h
    split at h
    case h_2 => cases h
    rename_i t hc
    obtain ⟨x, h1, rfl⟩ := wrapV_good h
    have hc' := rel_v_inv (hρ _ _ hc)
    simp only [execOp, hop, hc']
    cases t
    · exact Good.here (C := C) hI rfl (hρ _ _ h1)
    · exact Good.here (C := C) hI rfl (hρ _ _ h1)
  | alloc e =>
    simp only [op, hop] at h
    split at h
    case h_2 => cases h
    rename_i z hz
    cases h
    obtain ⟨i, zv, us, g1, g2, g3, g4⟩ := zeroOf_good (k := k) hz
    obtain ⟨k', q1, q2, q3, q4⟩ := new_good (P := C.P) hI e g4
    simp only [execOp, hop]
    refine Good.vn (C := C) ⟨k', _, ?_, q2, q3, q4⟩
    simp [Instr.alloc, run_zeroValue' g1 g2, newVar, g3, q1]
  | box e x =>
    simp only [op, hop] at h
    split at h
    case h_2 => cases h
    rename_i a ha
    split at h
    case isFalse => cases h
    rename_i ho
    cases h
    have hcs := (hρ _ _ ha).cells (allOne_ne_junk ho)
    obtain ⟨us, g1, g2⟩ : ∃ us : List Value, (ρ' x).cells = us.toArray ∧ RelL k a.cells us := ⟨_, by simp, hcs⟩
    obtain ⟨k', q1, q2, q3, q4⟩ := new_good (P := C.P) hI e g2
    simp only [execOp, hop]
    refine Good.vn (C := C) ⟨k', _, ?_, q2, q3, q4⟩
    simp [Instr.box, newVar, g1, q1]
  | build t parts =>
    simp only [op, hop] at h
    split at h
    case h_2 => cases h
    rename_i l hl
    obtain ⟨a, h1, rfl⟩ := wrapV_good h
    obtain ⟨g1, g2⟩ := partsOf_good hρ hl
    simp only [execOp, hop]
    exact Good.vh (C := C) hI (buildOp_good (by simpa using g1) g2 h1)
  | buildSlice t len parts =>
    simp only [op, hop] at h
    split at h
    case h_2 => cases h
    rename_i l hl
    obtain ⟨g1, g2⟩ := partsOf_good hρ hl
    simp only [execOp, hop]
    split at h
    · obtain ⟨a, σ', h1, rfl⟩ := wrapS_good h
      exact Good.vn (C := C) (buildSliceM_good hI (by simpa using g1) g2 h1)
    · obtain ⟨a, h1, rfl⟩ := wrapV_good h
      exact Good.vn (C := C) (buildSliceOp_good hI (by simpa using g1) g2 h1)
  | load t a =>
    simp only [op, hop] at h
    split at h
    case h_2 => cases h
    rename_i x hx
    obtain ⟨a, h1, rfl⟩ := wrapV_good h
    simp only [execOp, hop]
    exact Good.vh (C := C) hI (loadOp_good hI (hρ _ _ hx) h1)
  | store t a x =>
    simp only [op, hop] at h
    split at h
    case h_2 => cases h
    rename_i a' x' ha hx
    obtain ⟨s, h1, rfl⟩ := wrapU_good h
    simp only [execOp, hop]
    exact Good.un (C := C) (storeOp_good hI (hρ _ _ ha) (hρ _ _ hx) h1)
  | nilCheck x =>
    simp only [op, hop] at h
    split at h
    · cases h
    · rename_i f u c hx
      cases h
      obtain ⟨us, vs, g1, g2, g3⟩ := fn_inv (hρ _ _ hx)
      simp only [execOp, hop, g1]
      exact Good.here (C := C) hI rfl (by rw [← g1]; exact hρ _ _ hx)
    · cases h
    · cases h
    · rename_i a hnv hnf1 hnf2 hnj hx
      cases h
      have hr := hρ _ _ hx
      have key : execOp ρ' o = pure (.value (ρ' x)) := by
        simp only [execOp, hop]
        generalize ρ' x = u at hr ⊢
        cases hr <;> first | rfl | (exact (hnv _ rfl).elim) | (exact (hnf2 _ _ _ rfl).elim) | (exact (hnj rfl).elim)
      rw [key]
      exact Good.here (C := C) hI rfl hr
    · cases h
  | binOp b t x y z =>
    simp only [op, hop] at h
    split at h
    · rename_i x' y' hx hy
      split at h
      · rename_i q hq
        cases h
        simp only [execOp, hop]
        exact Good.vh (C := C) hI ⟨_, (binOp_good hI hρ hq hx hy).1, rel_bool⟩
      · exact hdet (by simp [hop]) h
    · rename_i x' y' hx hy
      split at h
      · rename_i q hq
        cases h
        simp only [execOp, hop]
        exact Good.vh (C := C) hI ⟨_, (binOp_good hI hρ hq hx hy).2, rel_bool⟩
      · exact hdet (by simp [hop]) h
    · exact hdet (by simp [hop]) h
  | unOp u t x =>
    simp only [op, hop] at h
    exact hdet (by simp [hop]) h
  | convert s d x =>
    simp only [op, hop] at h
    split at h
    case h_2 => cases h
    rename_i x' hx
    split at h
    · rename_i a σ' h1
      cases h
      simp only [execOp, hop]
      exact Good.vn (C := C) (convertOp_good hI (hρ _ _ hx) h1)
    · exact hdet (by simp [hop]) h
  | makeInterface t x =>
    simp only [op, hop] at h
    split at h
    · cases h
    · rename_i a d hni hx hu
      cases h
      simp only [execOp, hop]
      refine Good.vh (C := C) hI ⟨.iface t (ρ' x), ?_, .ifc (hρ _ _ hx)⟩
      simp only [Instr.makeInterface, Sem.run_bind, run_underlying hu, Result.andThen_ok]
      cases d <;> first | rfl | exact (hni _ _ hx hu).elim
    · cases h
  | makeFunc f first cap =>
    simp only [op, hop] at h
    split at h
    case h_2 => cases h
    rename_i l c hl hc
    cases h
    obtain ⟨g1, g2⟩ := opsOf_good hρ hl
    obtain ⟨g3, g4⟩ := opsOf_good hρ hc
    simp only [execOp, hop]
    refine Good.vh (C := C) hI ⟨.func f (first.toList.map ρ').toArray (cap.toList.map ρ').toArray, ?_, .fn g1 g3 g2 g4⟩
    rw [map_arr, map_arr]; rfl
  | makeSlice t l c =>
    simp only [op, hop] at h
    split at h
    case h_2 => cases h
    rename_i l' c' hl hc
    obtain ⟨a, σ', h1, rfl⟩ := wrapS_good h
    simp only [execOp, hop]
    exact Good.vn (C := C) (makeSliceOp_good hI (hρ _ _ hl) (hρ _ _ hc) h1)
  | slice t x lo hi mx =>
    cases mx with
    | some m => simp only [op, hop] at h; cases h
    | none =>
    simp only [op, hop] at h
    split at h
    case h_2 => cases h
    rename_i x' l h' hx hl hh
    split at h
    · rename_i a σ' h1
      cases h
      simp only [execOp, hop]
      exact Good.vn (C := C) (sliceOp_good hI (hρ _ _ hx) (optOf_good hρ hl) (optOf_good hρ hh) h1)
    · exact hdet (by simp [hop]) h
  | fieldAddr s x f =>
    simp only [op, hop] at h
    split at h
    case h_2 => cases h
    rename_i a hx
    obtain ⟨a, h1, rfl⟩ := wrapV_good h
    simp only [execOp, hop]
    exact Good.vh (C := C) hI (fieldOp_good (hρ _ _ hx) h1)
  | field t x f =>
    simp only [op, hop] at h
    split at h
    case h_2 => cases h
    rename_i a hx
    obtain ⟨a, h1, rfl⟩ := wrapV_good h
    simp only [execOp, hop]
    exact Good.vh (C := C) hI (fieldVal_good (hρ _ _ hx) h1)
  | indexAddr t x i =>
    simp only [op, hop] at h
    split at h
    case h_2 => cases h
    rename_i a i' hx hi
    obtain ⟨a, h1, rfl⟩ := wrapV_good h
    simp only [execOp, hop]
    exact Good.vh (C := C) hI (indexAddrOp_good (hρ _ _ hx) (hρ _ _ hi) h1)
  | index t x i =>
    simp only [op, hop] at h
    split at h
    case h_2 => cases h
    rename_i a i' hx hi
    split at h
    · rename_i r' h1
      cases h
      simp only [execOp, hop]
      exact Good.vh (C := C) hI (indexVal_good (hρ _ _ hx) (hρ _ _ hi) h1)
    · exact hdet (by simp [hop]) h
  | typeAssert x xt t ok =>
    simp only [op, hop] at h
    split at h
    case h_2 => cases h
    rename_i a hx
    obtain ⟨a, h1, rfl⟩ := wrapV_good h
    simp only [execOp, hop]
    exact Good.vh (C := C) hI (typeAssertOp_good (hρ _ _ hx) h1)
  | extract x i =>
    simp only [op, hop] at h
    split at h
    case h_2 => cases h
    rename_i vs hx
    obtain ⟨a, h1, rfl⟩ := wrapV_good h
    obtain ⟨us, g1, g2⟩ := tup_inv (hρ _ _ hx)
    obtain ⟨u, g3, g4⟩ := g2.get h1
    simp only [execOp, hop, g1]
    refine Good.vh (C := C) hI ⟨u, ?_, g4⟩
    simp [Instr.extract, g3]
  | call c =>
    simp only [op, hop] at h
    split at h
    · rename_i f hc
      split at h
      case h_2 => cases h
      rename_i g first cap as hf has
      split at h
      · rename_i r' h1
        cases h
        obtain ⟨us, vs, g1, g2, g3⟩ := fn_inv (hρ _ _ hf)
        have g4 := opsOf_good hρ has
        rw [exec_value hop hc g1, map_arr]
        have := callOp_good (C := C) hI ((g2.append g4).append g3) h1
        simpa using this
      · exact hdet (by simp [hop]) h
    · rename_i b hc
      exact builtinOp_good hI hρ hop hc h
    · rename_i x name hc
      split at h
      case h_2 => cases h
      rename_i t y as hx has
      split at h
      case h_2 => cases h
      rename_i f hm
      obtain ⟨v, g1, g2⟩ := ifc_inv (hρ _ _ hx)
      have g4 := opsOf_good hρ has
      have h5 := callOp_good (C := C) hI (RelL.cons g2 g4) h
      have hmd : (method (C.P.types.size + Made.depth) t v name).run C.P k.w = .ok (f, v) k.w := methodOf_good hm v (C.P.types.size + (Made.depth - 1)) k.w
      have e : (execOp ρ' o).run C.P k.w = (callFunc f ((v :: c.args.toList.map ρ').toArray)).run C.P k.w := by
        rw [map_arr_invoke hop hc g1]
        simp only [callMethod, Sem.run_bind, run_program, Result.andThen_ok, hmd]
        rw [map_arr]
        simp
      rw [e]; exact h5
  | defer c =>
    simp only [op, hop] at h
    split at h
    · rename_i f hc
      split at h
      case h_2 => cases h
      rename_i g first cap as hf has
      cases h
      obtain ⟨us, vs, g1, g2, g3⟩ := fn_inv (hρ _ _ hf)
      have g4 := opsOf_good hρ has
      refine ⟨k, { target := .fn (.func g) vs.toArray, args := us.toArray ++ c.args.map ρ' }, ?_, ⟨us ++ c.args.toList.map ρ', vs, rfl, by simp, (g2.append g4).append g3⟩, hI, K.le.refl k⟩
      simp [execOp, hop, resolve, hc, g1, Deferred.ofValue]
    · cases h
  | makeMap t r' =>
    cases r' with
    | some x => simp only [op, hop] at h; cases h
    | none =>
    simp only [op, hop] at h
    cases h
    obtain ⟨q1, q2, q3⟩ := hI.push (x := .map [] 0) (o := .map #[] 0) ⟨[], rfl, rfl, fun j e f h => by simp at h⟩
    simp only [execOp, hop]
    refine Good.vn (C := C) ⟨_, .map (some k.w.heap.size), ?_, .mp q3, q1, q2⟩
    simp [Instr.makeMap]
    rfl
  | lookup t m kx ok =>
    simp only [op, hop] at h
    split at h
    case h_2 => cases h
    rename_i m' k' hm hk
    obtain ⟨a, h1, rfl⟩ := wrapV_good h
    simp only [execOp, hop]
    exact Good.vh (C := C) hI (lookupOp_good hI (hρ _ _ hm) (hρ _ _ hk) h1)
  | mapUpdate t m kx x =>
    simp only [op, hop] at h
    split at h
    case h_2 => cases h
    rename_i m' k' x' hm hk hx
    obtain ⟨s, h1, rfl⟩ := wrapU_good h
    simp only [execOp, hop]
    exact Good.un (C := C) (updateOp_good hI (hρ _ _ hm) (hρ _ _ hk) (hρ _ _ hx) h1)
  | insert t m kx x =>
    simp only [op, hop] at h
    split at h
    case h_2 => cases h
    rename_i m' k' x' hm hk hx
    obtain ⟨s, h1, rfl⟩ := wrapU_good h
    simp only [execOp, hop]
    exact Good.un (C := C) (updateOp_good hI (hρ _ _ hm) (hρ _ _ hk) (hρ _ _ hx) h1)
  | mapEntry t m kx =>
    simp only [op, hop] at h
    split at h
    case h_2 => cases h
    rename_i m' k' hm hk
    obtain ⟨a, s, h1, rfl⟩ := wrapS_good h
    simp only [execOp, hop]
    exact Good.vn (C := C) (entryOp_good hI (hρ _ _ hm) (hρ _ _ hk) h1)
  | entryStore t m s x =>
    simp only [op, hop] at h
    split at h
    case h_2 => cases h
    rename_i m' s' x' hm hs hx
    obtain ⟨σ', h1, rfl⟩ := wrapU_good h
    simp only [execOp, hop]
    exact Good.un (C := C) (entryStoreOp_good hI (hρ _ _ hm) (hρ _ _ hs) (hρ _ _ hx) h1)
  | range t x =>
    simp only [op, hop] at h
    split at h
    case h_2 => cases h
    rename_i x' hx
    obtain ⟨a, σ', h1, rfl⟩ := wrapS_good h
    simp only [execOp, hop]
    exact Good.vn (C := C) (rangeOp_good hI (hρ _ _ hx) h1)
  | next x isS =>
    simp only [op, hop] at h
    split at h
    case h_2 => cases h
    rename_i x' hx
    obtain ⟨a, σ', h1, rfl⟩ := wrapS_good h
    simp only [execOp, hop]
    exact Good.vn (C := C) (nextOp_good hI (hρ _ _ hx) h1)
  | entry x =>
    simp only [op, hop] at h
    split at h
    case h_2 => cases h
    rename_i x' hx
    obtain ⟨a, h1, rfl⟩ := wrapV_good h
    simp only [execOp, hop]
    exact Good.vh (C := C) hI (iterEntry_good hI (hρ _ _ hx) h1)
  | panic x =>
    simp only [op, hop] at h
    split at h
    case h_2 => cases h
    rename_i t a hx
    cases h
    obtain ⟨v, g1, g2⟩ := ifc_inv (hρ _ _ hx)
    refine ⟨k, .iface t v, ?_, .ifc g2, hI, K.le.refl k⟩
    simp [execOp, hop, g1, Instr.panic, goPanic]
  | _ => simp only [op, hop] at h; cases h
end
end Go.DM
