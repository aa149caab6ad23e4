/- This text proves the D-machine's operations sound against the model's: make, conversions, maps, calls, all operations. No condition. -/
import Derived.Test.YthcnipopdbgpdaaGreatDoorDmB
import Derived.Test.YthcnipopdbgpdaaGreatDoorDmS
import Derived.Lib.MakeNoZero
import Derived.Laws.Externs
import Derived.Recover
import Derived.Tactics
import Derived.LoopN
import Derived.Orders
import Derived.Below
import Derived.ChangeSame
import Derived.Lib.LaidTab
import Derived.Stop.LaidErr
namespace Go.DM
open Go Go.RowKit

theorem N6 (w : World) (us us2 : Array Value) (e : TypeId) (fr : Nat × Nat) : (w.alloc (.cells us e fr)).setRow w.heap.size us2 = w.alloc (.cells us2 e fr) := by
 obtain ⟨heap, tape, drawn, os, out⟩ := w
 simp only [World.setRow, World.alloc]
 congr 1
 apply Array.ext_getElem?
 intro n
 rw [Array.getElem?_modify, Array.getElem?_push, Array.getElem?_push]
 by_cases hn : n = heap.size
 ·subst hn; simp
 ·have : ¬ heap.size = n := fun e => hn e.symm
  simp [hn, this]
theorem Pi (w : World) {c d : Nat} (h : c ≠ d) (us vs : Array Value) : (w.setRow c us).setRow d vs = (w.setRow d vs).setRow c us := by
 obtain ⟨heap, tape, drawn, os, out⟩ := w
 simp only [World.setRow]
 congr 1
 apply Array.ext_getElem?
 intro n
 simp only [Array.getElem?_modify]
 by_cases h1 : c = n
 ·subst h1
  have : ¬ d = c := fun e => h e.symm
  simp [this]
 ·by_cases h2 : d = n
  ·simp [h1, h2]
  ·simp [h1, h2]

structure Acf (w0 : World) (k : K) (σ2 : St) (sz m : Nat) (vus : List Value) (a : A) (w1 : World) (r : Value) : Prop where
 ex : ∃ (c o cap : Nat) (us : List Value) (e : TypeId) (lo hi : Nat) (k2 : K), r = .slice (some ⟨c, o, none⟩) (m + 1) cap ∧ w1.heap[c]? = some (.cells us.toArray e (lo, hi)) ∧ o + m * sz + sz ≤ us.length ∧ (lo = hi ∨ hi ≤ o + m * sz) ∧
  k2.w = w1.setRow c (us.take (o + m * sz) ++ vus ++ us.drop (o + m * sz + vus.length)).toArray ∧ Rel k2 a r ∧ Inv w0 σ2 k2 ∧ k.le k2 ∧ (∀ c', c' ≠ c → c' < k.w.heap.size → w1.heap[c']? = k.w.heap[c']?) ∧ (∀ b x y, σ2.blks.get b = some y → k.blk b = some x → x ≠ c) ∧ σ2.blks = σ2.blks

section
variable {P : Program} {w0 : World} {σ σ' : St} {k : K}

theorem K5 (hI : Inv w0 σ k) {ats : Array TypeId} {ty t t' e : TypeId} {d' : TypeDesc} {i : TypeInfo} {z : Value} {sv xv : Value} {s x : A} {old new vs : List A} {vus : List Value} {sLen sCap : Nat} {base : Option Addr} (h0 : ats[0]? = some t) (h1 : ats[1]? = some t')
  (hu : P.underlying t = some (.slice e)) (hu' : P.underlying t' = some d') (hd' : ∀ kd, d' ≠ .int kd) (hi : P.info? e = some i) (hz : i.zero = some z) (hzs : z.cells.size = i.size) (hsz : 0 < i.size) (hby : 0 < i.bytes)
  (hsv : sv = .slice base sLen sCap) (ho : Ai σ i.size s = some old) (hs : Rel k s sv) (hol : old.length = sLen * i.size) (hn : Ai σ i.size x = some new) (hx : Rel k x xv) (hnl : new.length = i.size) (hbig : sCap < sLen + 1)
  (hroom : (2 * (sLen + 1) + 1024) * i.bytes ≤ 281474976710656) (hv : RelL k vs vus) (hvl : vs.length = i.size) :
  ∃ w1 r, (Builtin.append_ ats ty #[sv, xv]).run P k.w = .ok r w1 ∧ Acf w0 k (σ.tok e) i.size sLen vus (.sl i.size (old ++ vs) (.gr σ.nextT)) w1 r := by
 obtain ⟨hI1, hle1⟩ := hI.drew
 obtain ⟨n, us, l1, f1, r1, e1⟩ := A4 (P := P) hI1 hsz (hx.mono hle1) hn
 obtain ⟨n', us', l1', f1', r1', e1'⟩ := A4 (P := P) hI1 hsz (hs.mono hle1) ho
 have hn1 : n = 1 := by
  rw [hnl] at e1
  rcases Nat.lt_or_ge n 1 with h | h
  ·have : n = 0 := by omega
   subst this; simp at e1; omega
  ·rcases Nat.lt_or_ge 1 n with h2 | h2
   ·have : 2 * i.size ≤ n * i.size := Nat.mul_le_mul_right _ h2
    omega
   ·omega
 subst hn1
 have hn' : n' = sLen := by
  have := l1' k.w
  rw [hsv] at this
  simp [Builtin.lenOf] at this
  exact this.symm
 subst hn'
 have hcap : Builtin.nextslicecap (n' + 1) sCap * i.bytes ≤ 281474976710656 := Nat.le_trans (Nat.mul_le_mul_right _ (Gh hbig)) hroom
 obtain ⟨cap, hcut, hcapge⟩ : ∃ cap, (Question.appendCap (n' + 1) sCap e).cut (k.w.tape k.w.drawn (Question.appendCap (n' + 1) sCap e)) = cap ∧ n' + 1 ≤ cap := ⟨_, rfl, by simp [Question.cut]⟩
 have hul : us.length = i.size := by rw [← r1.1]; exact hnl
 have hul' : us'.length = n' * i.size := by rw [← r1'.1]; exact e1'
 have hvul : vus.length = i.size := by rw [← hv.1]; exact hvl
 have hrun : (Builtin.append_ ats ty #[sv, xv]).run P k.w = .ok (.slice (some ⟨k.w.heap.size, 0, none⟩) (n' + 1) cap) ((k.w.drew).alloc (.cells (us'.toArray ++ us.toArray ++ Builtin.zeroCells z.cells (cap - (n' + 1))) e)) := by
  have f2 : (Builtin.firstCells i.size n' sv).run P k.w.drew = .ok us'.toArray k.w.drew := f1'
  have f3 : (Builtin.firstCells i.size 1 xv).run P k.w.drew = .ok us.toArray k.w.drew := f1
  subst hsv
  have hm : (match d' with | .int _ => true | _ => false) = false := by
   cases d' <;> first | rfl | exact absurd rfl (hd' _)
  have hb0 : ¬ i.bytes = 0 := by omega
  have hc1 : ¬ (Builtin.nextslicecap (n' + 1) sCap * i.bytes > 2 ^ 48) := by
   have : (2 : Nat) ^ 48 = 281474976710656 := by decide
   omega
  have hq : (Question.appendCap (n' + 1) sCap e).forced = false := rfl
  simp only [Builtin.append_, h0, h1, List.getElem?_toArray, List.getElem?_cons_zero, List.getElem?_cons_succ, Sem.run_bind, run_underlying hu, run_underlying hu', Result.andThen_ok, Ba hi, Sem.run_pure]
  simp only [Bool.false_eq_true, if_false, Sem.run_bind, l1, Result.andThen_ok, Sem.run_ite]
  rw [if_neg (by omega)]
  simp only [Bu hi, Result.andThen_ok, hb0, or_self, and_false, if_false]
  rw [if_neg hc1]
  simp only [Sem.run_bind, Result.andThen_ok, run_choose, hq, Bool.false_eq_true, if_false, hcut, run_askRoom, World.drew_eq, f2, f3, Bool.not_false, if_true, Am hi hz, newRow, run_newObj, Sem.run_pure, World.alloc_eq]
  rfl
 have hspace : (n' + 1) * i.size ≤ cap * i.size := Nat.mul_le_mul_right _ hcapge
 rw [Nat.add_mul, Nat.one_mul] at hspace
 have hzc : (Builtin.zeroCells z.cells (cap - (n' + 1))).size = cap * i.size - (n' * i.size + i.size) := by
  rw [size_zeroCells, hzs, Nat.sub_mul, Nat.add_mul, Nat.one_mul]
 have hall : (us'.toArray ++ vus.toArray ++ Builtin.zeroCells z.cells (cap - (n' + 1))).size = cap * i.size := by
  rw [Array.size_append, Array.size_append, hzc]
  simp only [List.size_toArray]
  omega
 have hol2 : (old ++ vs).length = (n' + 1) * i.size := by rw [List.length_append, hol, hvl, Nat.add_mul, Nat.one_mul]
 obtain ⟨hI2, hle2⟩ := hI1.layTok (us := us'.toArray ++ vus.toArray ++ Builtin.zeroCells z.cells (cap - (n' + 1))) (e := e) (lo := 0) (hi := 0) (n := (old ++ vs).length) (by
  rw [hall, hol2]; exact Nat.mul_le_mul_right _ hcapge) (.inl rfl)
 refine ⟨_, _, hrun, ⟨k.w.heap.size, 0, cap, us' ++ us ++ (Builtin.zeroCells z.cells (cap - (n' + 1))).toList, e, 0, 0, _, rfl, ?_, ?_, .inl rfl, ?_, ?_, hI2, hle1.trans hle2, fun c' h1 h2 => ?_, fun b x y hb hx hc => ?_, rfl⟩⟩
 ·have := Ag k.w.drew (.cells (us'.toArray ++ us.toArray ++ Builtin.zeroCells z.cells (cap - (n' + 1))) e)
  rw [show k.w.drew.heap.size = k.w.heap.size from rfl] at this
  rw [this]
  simp
 ·simp only [List.length_append, Array.length_toList, hul, hul', hzc]; omega
 ·show k.w.drew.alloc _ = _
  rw [show k.w.heap.size = k.w.drew.heap.size from rfl, N6]
  congr 3
  apply Array.ext'
  simp only [Array.toList_append]
  have h1 : (us' ++ us ++ (Builtin.zeroCells z.cells (cap - (n' + 1))).toList).take (0 + n' * i.size) = us' := by
   rw [List.append_assoc, Nat.zero_add, ← hul', List.take_left]
  have h2 : (us' ++ us ++ (Builtin.zeroCells z.cells (cap - (n' + 1))).toList).drop (0 + n' * i.size + vus.length) = (Builtin.zeroCells z.cells (cap - (n' + 1))).toList := by
   have : 0 + n' * i.size + vus.length = (us' ++ us).length := by rw [List.length_append, hul, hul', hvul]; omega
   rw [this, List.drop_left]
  rw [h1, h2]
 ·have hr : RelL _ (old ++ vs) (us' ++ vus) := (r1'.append (hv.mono hle1)).mono hle2
  have hdiv : (old ++ vs).length / i.size = n' + 1 := by rw [hol2, Nat.mul_div_cancel _ hsz]
  have hblk : (k.w.drew.alloc (.cells (us'.toArray ++ vus.toArray ++ Builtin.zeroCells z.cells (cap - (n' + 1))) e)).heap[k.w.heap.size]? = some (.cells (us'.toArray ++ vus.toArray ++ Builtin.zeroCells z.cells (cap - (n' + 1))) e (0, 0)) := Ag k.w.drew _
  suffices key : Rel ((k.wd k.w.drew).layTok (Obj.cells (us'.toArray ++ vus.toArray ++ Builtin.zeroCells z.cells (cap - (n' + 1))) e (0, 0)) (old ++ vs).length σ.nextT) (.sl i.size (old ++ vs) (.gr σ.nextT)) (.slice (some ⟨k.w.heap.size, 0, none⟩) ((old ++ vs).length / i.size) cap) by
   rw [hdiv] at key; exact key
  refine .sl (n := (old ++ vs).length) (fun j => (us' ++ vus).getD j undef) (if_pos rfl) (by omega) (fun j a ha => ?_) (fun j a ha => ?_) hsz (by rw [hdiv]; exact hol2) (by rw [hdiv]; exact hcapge) ⟨if_pos rfl, fun _ => .inr ⟨?_, _, _, _, hblk, ?_⟩⟩
  ·have hj : j < (us' ++ vus).length := by rw [← hr.1]; exact Be ha
   rw [Nat.zero_add]
   refine (Bl hblk).trans ?_
   rw [← Array.getElem?_toList]
   simp only [Array.toList_append]
   rw [List.getElem?_append_left hj]
   simp [List.getD, List.getElem?_eq_getElem hj]
  ·obtain ⟨u, g1, g2⟩ := hr.get ha
   simp only [List.getD, g1, Option.getD_some]
   exact g2
  ·rw [Nat.zero_add]; exact if_pos rfl
  ·rw [Nat.zero_add]; exact hall
 ·exact Af (w := k.w.drew) h2
 ·have := hI.dom b x hx; omega

theorem Q9 (hI : Inv w0 σ k) {ats : Array TypeId} {ty t t' e : TypeId} {d' : TypeDesc} {i : TypeInfo} {xv : Value} {x : A} {new cs vs : List A} {vus : List Value} {id c o len cap : Nat} (h0 : ats[0]? = some t) (h1 : ats[1]? = some t')
  (hu : P.underlying t = some (.slice e)) (hu' : P.underlying t' = some d') (hd' : ∀ kd, d' ≠ .int kd) (hi : P.info? e = some i) (hsz : 0 < i.size) (hone : Bh new = true)
  (hs : Rel k (.sl i.size cs (.gr id)) (.slice (some ⟨c, o, none⟩) len cap)) (hn : Ai σ i.size x = some new) (hx : Rel k x xv) (hnl : new.length = i.size) (hlt : len < cap) (ht : σ.toks.get id = some e) (hv : RelL k vs vus) (hvl : vs.length = i.size) :
  ∃ w1 r, (Builtin.append_ ats ty #[.slice (some ⟨c, o, none⟩) len cap, xv]).run P k.w = .ok r w1 ∧ Acf w0 k ((σ.untok id).tok e) i.size len vus (.sl i.size (cs ++ vs) (.gr σ.nextT)) w1 r := by
 obtain ⟨n, us, l1, f1, r1, e1⟩ := A4 (P := P) hI hsz hx hn
 have hn1 : n = 1 := by
  rw [hnl] at e1
  rcases Nat.lt_or_ge n 1 with h | h
  ·have : n = 0 := by omega
   subst this; simp at e1; omega
  ·rcases Nat.lt_or_ge 1 n with h2 | h2
   ·have : 2 * i.size ≤ n * i.size := Nat.mul_le_mul_right _ h2
    omega
   ·omega
 subst hn1
 obtain ⟨hl, c', fz, csv, lo, hi', g1, g2, g3, g4, g5⟩ := hI.tok id e ht
 obtain ⟨c0, i0, m, f, q0, hlen, q1, q2, q3, q4, q5, q6, q7, q8⟩ := hs.slFull (.inr (by simp))
 cases q0
 obtain ⟨p1, p2⟩ := q8
 rw [g1] at p1; cases p1
 rcases p2 hl with p2 | ⟨p2, cs2, e2, fr2, p3, p4⟩
 ·rw [← hlen] at p2; omega
 rw [g3] at p2; cases p2
 rw [g4] at p3; cases p3
 have hm : cs.length = len * i.size := q6
 have hspace : (len + 1) * i.size ≤ cap * i.size := Nat.mul_le_mul_right _ hlt
 have hul : us.length = i.size := by rw [← r1.1]; exact hnl
 have hvul : vus.length = i.size := by rw [← hv.1]; exact hvl
 rw [Nat.add_mul, Nat.one_mul] at hspace
 have hst := Cz P c e lo hi' us (o + len * i.size) 0 csv.toList k.w (by simpa using g4) (by simp only [Array.length_toList]; omega) (Cy r1 hone) (by rw [hm] at g5; simpa using g5)
 simp only [Nat.add_zero] at hst
 have hmx : (match d' with | .int _ => true | _ => false) = false := by
  cases d' <;> first | rfl | exact absurd rfl (hd' _)
 have hrun : (Builtin.append_ ats ty #[.slice (some ⟨c, o, none⟩) len cap, xv]).run P k.w = .ok (.slice (some ⟨c, o, none⟩) (len + 1) cap) (k.w.setRow c (csv.toList.take (o + len * i.size) ++ us ++ csv.toList.drop (o + len * i.size + us.length)).toArray) := by
  simp only [Builtin.append_, h0, h1, List.getElem?_toArray, List.getElem?_cons_zero, List.getElem?_cons_succ, Sem.run_bind, run_underlying hu, run_underlying hu', Result.andThen_ok, Ba hi, Sem.run_pure]
  simp only [Bool.false_eq_true, if_false, Sem.run_bind, l1, Result.andThen_ok, Sem.run_ite]
  rw [if_pos (by omega)]
  simp only [Bool.not_false, if_true, f1, Result.andThen_ok, A6, hst, Sem.run_pure]
 have hcl : (csv.toList.take (o + len * i.size)).length = o + len * i.size := by
  simp only [List.length_take, Array.length_toList]; omega
 have hsize : ∀ xs : List Value, xs.length = i.size → (csv.toList.take (o + len * i.size) ++ xs ++ csv.toList.drop (o + len * i.size + xs.length)).length = csv.size := fun xs hxs => by
  simp only [List.length_append, List.length_drop, Array.length_toList, hcl]; omega
 obtain ⟨hI2, hle2⟩ := hI.grow (n' := o + cs.length + vs.length) ht g1 g3 (by omega) g4 g5 g2 (us := (csv.toList.take (o + len * i.size) ++ vus ++ csv.toList.drop (o + len * i.size + vus.length)).toArray) (by simpa using hsize vus hvul) (by
  simp only [List.size_toArray, hsize vus hvul]; rw [hvl, p4]; omega) (fun j hj => by
  rw [hm] at hj
  simp only [List.getElem?_toArray]
  rw [List.append_assoc, List.getElem?_append_left (by omega), List.getElem?_take, if_pos hj]
  simp)
 have hblk0 : ∀ xs : List Value, (k.w.setRow c xs.toArray).heap[c]? = some (.cells xs.toArray e (lo, hi')) := fun xs => setRow_heap _ _ _ _ _ _ g4
 refine ⟨_, _, hrun, ⟨c, o, cap, csv.toList.take (o + len * i.size) ++ us ++ csv.toList.drop (o + len * i.size + us.length), e, lo, hi', _, rfl, hblk0 _, ?_, ?_, ?_, ?_, hI2, hle2, fun c' h1 h2 => setRow_other _ _ _ _ h1, fun b x y hb hx hc => ?_, rfl⟩⟩
 ·rw [hsize us hul]; omega
 ·rw [hm] at g5; exact g5
 ·show k.w.setRow c _ = _
  rw [setRow_setRow]
  congr 2
  have h1 : (csv.toList.take (o + len * i.size) ++ us ++ csv.toList.drop (o + len * i.size + us.length)).take (o + len * i.size) = csv.toList.take (o + len * i.size) := by
   rw [List.append_assoc]
   have := List.take_left (l₁ := csv.toList.take (o + len * i.size)) (l₂ := us ++ csv.toList.drop (o + len * i.size + us.length))
   rwa [hcl] at this
  have h2 : (csv.toList.take (o + len * i.size) ++ us ++ csv.toList.drop (o + len * i.size + us.length)).drop (o + len * i.size + vus.length) = csv.toList.drop (o + len * i.size + vus.length) := by
   have hh : o + len * i.size + vus.length = (csv.toList.take (o + len * i.size) ++ us).length := by rw [List.length_append, hcl, hul, hvul]
   rw [hh, List.drop_left, ← hh, hul, hvul]
  rw [h1, h2]
 ·have hblk := hblk0 (csv.toList.take (o + len * i.size) ++ vus ++ csv.toList.drop (o + len * i.size + vus.length))
  have hml : (cs ++ vs).length = (len + 1) * i.size := by rw [List.length_append, hm, hvl, Nat.add_mul, Nat.one_mul]
  have hdiv : (cs ++ vs).length / i.size = len + 1 := by rw [hml, Nat.mul_div_cancel _ hsz]
  have hr2 := hv.mono hle2
  suffices key : Rel (k.grow c (o + cs.length + vs.length) id σ.nextT (csv.toList.take (o + len * i.size) ++ vus ++ csv.toList.drop (o + len * i.size + vus.length)).toArray) (.sl i.size (cs ++ vs) (.gr σ.nextT)) (.slice (some ⟨c, o, none⟩) ((cs ++ vs).length / i.size) cap) by
   rw [hdiv] at key; exact key
  refine .sl (n := o + cs.length + vs.length) (fun j => if j < cs.length then f j else vus.getD (j - cs.length) undef) (if_pos rfl) (by rw [List.length_append]; omega) (fun j a ha => ?_) (fun j a ha => ?_) hsz (by rw [hdiv]; exact hml) (by rw [hdiv]; omega) ⟨if_pos rfl, fun _ => .inr ⟨?_, _, _, _, hblk, ?_⟩⟩
  ·refine (Bl hblk).trans ?_
   simp only [List.getElem?_toArray]
   by_cases hj : j < cs.length
   ·rw [List.getElem?_append_left hj] at ha
    simp only [if_pos hj]
    rw [List.append_assoc, List.getElem?_append_left (by omega), List.getElem?_take, if_pos (by omega), ← q3 j a ha]
    rw [Bl g4]; simp
   ·simp only [if_neg hj]
    have hj2 : j - cs.length < vus.length := by have := Be ha; rw [List.length_append] at this; omega
    rw [List.append_assoc, List.getElem?_append_right (by omega), hcl, List.getElem?_append_left (by omega)]
    simp only [List.getD]
    rw [show o + j - (o + len * i.size) = j - cs.length by omega, List.getElem?_eq_getElem hj2]
    rfl
  ·by_cases hj : j < cs.length
   ·rw [List.getElem?_append_left hj] at ha
    simp only [if_pos hj]
    exact (q4 j a ha).mono hle2
   ·rw [List.getElem?_append_right (by omega)] at ha
    simp only [if_neg hj]
    obtain ⟨u, w1, w2⟩ := hr2.get ha
    simp only [List.getD, w1, Option.getD_some]
    exact w2
  ·show (if c = c then _ else _) = _
   rw [if_pos rfl, List.length_append, Nat.add_assoc]
  ·simp only [List.size_toArray, hsize vus hvul]; exact p4
 ·exact hI.frz_ne (by simpa [St.tok, St.untok] using hb) (hc ▸ hx) g3

theorem Pj (hI : Inv w0 σ k) {ats : Array TypeId} {ty t t' e : TypeId} {d' : TypeDesc} {i : TypeInfo} {sv xv : Value} {s x a : A} {new vs : List A} {vus : List Value} {m : Nat} (h0 : ats[0]? = some t) (h1 : ats[1]? = some t')
  (hu : P.underlying t = some (.slice e)) (hu' : P.underlying t' = some d') (hd' : ∀ kd, d' ≠ .int kd) (hi : P.info? e = some i) (hs : Rel k s sv) (hx : Rel k x xv) (hn : Ai σ i.size x = some new) (hnl : new.length = i.size) (hone : Bh new = true)
  (hv : RelL k vs vus) (hvl : vs.length = i.size) (hlen : Uw s i.size = some m) (h : Bp P t s (.sl i.size vs .no) σ = some (a, σ')) :
  ∃ w1 r, (Builtin.append_ ats ty #[sv, xv]).run P k.w = .ok r w1 ∧ Acf w0 k σ' i.size m vus a w1 r := by
 unfold Bp at h
 rw [hu] at h
 simp only [hi, Ai, if_true] at h
 split at h
 case isFalse => cases h
 rename_i hsz
 split at h
 ·rename_i hnil; subst hnil; simp at hvl; omega
 split at h
 case isFalse => cases h
 rename_i hc
 obtain ⟨_, hzs, hzc, hby⟩ := hc
 obtain ⟨z, hz⟩ := Option.isSome_iff_exists.1 hzs
 have hz2 : z.cells.size = i.size := by simpa [hz] using hzc
 have h1d : vs.length / i.size = 1 := by rw [hvl, Nat.div_self hsz]
 split at h
 ·simp only [Uw] at hlen
  cases hlen
  split at h
  case isFalse => cases h
  rename_i hroom
  cases h
  obtain rfl := rel_v_inv hs
  obtain ⟨w1, r, g1, g2⟩ := K5 (ty := ty) (old := []) hI h0 h1 hu hu' hd' hi hz hz2 hsz hby (base := none) (sLen := 0) (sCap := 0) rfl rfl hs (by simp) hn hx hnl (by omega) (by rw [h1d] at hroom; simpa using hroom) hv hvl
  exact ⟨w1, r, g1, by simpa using g2⟩
 ·rename_i sz' cs ap
  split at h
  case isFalse => cases h
  rename_i hroom
  obtain ⟨hszz, hroom⟩ := hroom
  subst hszz
  simp only [Uw, if_true] at hlen
  cases hlen
  obtain ⟨b, len, cap, rfl⟩ : ∃ b len cap, sv = .slice b len cap := by obtain ⟨c, cap, h⟩ := hs.slInv; exact ⟨_, _, _, h⟩
  have hne : cs ≠ [] ∨ ap ≠ .no := by
   cases ap with
   | no => cases h
   | ex => exact .inr (by simp)
   | gr id => exact .inr (by simp)
  obtain ⟨c, j, mm, f, rfl, hlen, q1, q2, q3, q4, q5, q6, q7, q8⟩ := hs.slFull hne
  have hdiv : (cs.length + vs.length) / i.size = len + 1 := by
   rw [q6, hvl, ← Nat.succ_mul, Nat.mul_div_cancel _ hsz]
  rw [hdiv] at hroom
  have hold : Ai σ i.size (.sl i.size cs ap) = some cs := by simp [Ai]
  rw [← hlen]
  split at h
  ·cases h
   have : cap = len := by rw [hlen]; exact q8.1
   exact K5 (ty := ty) hI h0 h1 hu hu' hd' hi hz hz2 hsz hby rfl hold hs q6 hn hx hnl (by omega) hroom hv hvl
  ·rename_i id
   split at h
   case isFalse => cases h
   rename_i hlv
   cases h
   by_cases hfit : len < cap
   ·exact Q9 hI h0 h1 hu hu' hd' hi hsz hone hs hn hx hnl hfit hlv hv hvl
   ·obtain ⟨hI1, hle1⟩ := hI.drop id
    have ha : ∀ y, Ai (σ.untok id) i.size y = Ai σ i.size y := fun y => rfl
    obtain ⟨w1, r, g1, ⟨c2, o2, cap2, us2, e2, lo2, hi2, k2, p1, p2, p3, p4, p5, p6, p7, p8, p9, p10, p11⟩⟩ := K5 (ty := ty) hI1 h0 h1 hu hu' hd' hi hz hz2 hsz hby rfl (by rw [ha]; exact hold) (hs.mono hle1) q6 (by rw [ha]; exact hn) (hx.mono hle1) hnl (by omega) hroom (hv.mono hle1) hvl
    exact ⟨w1, r, g1, ⟨c2, o2, cap2, us2, e2, lo2, hi2, k2, p1, p2, p3, p4, p5, p6, p7, hle1.trans p8, p9, p10, p11⟩⟩
  ·cases h
 ·simp only [Uw] at hlen; cases hlen
 ·cases h
end
end Go.DM
namespace Go.DM
open Go Go.RowKit

section
variable {P : Program} {w0 : World} {σ σ' : St} {k : K}

theorem Sr {k : K} {id c sz cap : Nat} {us : Array Value} {e : TypeId} {fr : Nat × Nat} (hsz : 0 < sz) (ho : k.own id = some c) (hf : k.frz c = some 0) (hh : k.w.heap[c]? = some (.cells us e fr)) (hl : us.size = cap * sz) :
  Rel k (.sl sz [] (.gr id)) (.slice (some ⟨c, 0, none⟩) 0 cap) := by
 have h00 : ([] : List A).length / sz = 0 := by simp
 have : Rel k (.sl sz [] (.gr id)) (.slice (some ⟨c, 0, none⟩) (([] : List A).length / sz) cap) :=
  .sl (n := 0) (fun _ => undef) hf (by simp) (fun j a ha => by simp at ha) (fun j a ha => by simp at ha) hsz (by simp) (by simp) ⟨ho, fun _ => .inr ⟨hf, _, _, _, hh, by simp [hl]⟩⟩
 rw [h00] at this
 exact this
theorem Gi (k : K) {t : TypeId} {l c a : A} {lv cv : Value} (hl : Rel k l lv) (hc : Rel k c cv) (h : Ep P t l c σ = some (a, σ')) :
  ∃ (us : List Value) (e : TypeId) (l' c' : Nat), (Instr.makeSlice t lv cv).run P k.w = .ok (.slice (some ⟨k.w.heap.size, 0, none⟩) l' c') (k.w.alloc (.cells us.toArray e)) ∧
   ((∃ z, a = .ms σ.next 0 l' c' ∧ σ' = σ.push (.cells z e) ∧ RelL k z us ∧ l' ≤ c' ∧ c' < Gl) ∨ (∃ sz, 0 < sz ∧ l' = 0 ∧ a = .sl sz [] (.gr σ.nextT) ∧ σ' = σ.tok e ∧ us.length = c' * sz)) := by
 unfold Ep at h
 split at h
 case h_2 => cases h
 rename_i e l' c' hu h1 h2
 obtain ⟨kd1, i1, rfl, p1, p2⟩ := Ei h1
 obtain ⟨kd2, i2, rfl, p3, p4⟩ := Ei h2
 obtain rfl := rel_v_inv hl
 obtain rfl := rel_v_inv hc
 split at h
 case h_2 => cases h
 rename_i i hi
 split at h
 case isFalse => cases h
 rename_i hq
 obtain ⟨hle, hby, hmx, hsz⟩ := hq
 have w1 : IntKind.i64.wrap i1 = (l' : Int) := by rw [IntKind.wrap_i64]; omega
 have w2 : IntKind.i64.wrap i2 = (c' : Int) := by rw [IntKind.wrap_i64]; omega
 have hb : ¬ ((i.bytes : Int) * (c' : Int) > 2 ^ 48) := by
  have : ((i.bytes * c' : Nat) : Int) ≤ 140737488355328 := by omega
  rw [Int.natCast_mul] at this
  have h2 : (2 : Int) ^ 48 = 281474976710656 := by decide
  omega
 have hrun : ∀ zu : Array Value, ((c' * i.size = 0 ∧ zu = #[]) ∨ (c' * i.size ≠ 0 ∧ ∃ zv, i.zero = some zv ∧ zv.cells = zu)) → (Instr.makeSlice t (.int kd1 i1) (.int kd2 i2)).run P k.w = .ok (.slice (some ⟨k.w.heap.size, 0, none⟩) l' c') (k.w.alloc (.cells ((Array.range (c' * i.size)).map (zu[· % zu.size]!)) e)) := by
  intro zu hzu
  have t1 : ¬ ((decide ((c' : Int) < 0) || decide ((i.bytes : Int) * (c' : Int) > 2 ^ 48) || decide ((l' : Int) < 0) || decide ((l' : Int) > (c' : Int))) = true) := by
   simp only [Bool.or_eq_true, decide_eq_true_eq]
   omega
  simp only [Instr.makeSlice, asInt, asIntOf, Sem.run_bind, run_underlying hu, Result.andThen_ok, Sem.run_pure, Bu hi, w1, w2, Sem.run_ite]
  rw [if_neg t1]
  simp only [run_askRoom, Result.andThen_ok, Ba hi, Int.toNat_natCast]
  rcases hzu with ⟨h0, rfl⟩ | ⟨h0, zv, g1, g2⟩
  ·rw [if_pos h0]
   simp [newRow]
  ·rw [if_neg h0]
   simp only [Am hi g1, Result.andThen_ok, g2]
   simp [newRow]
 split at h
 ·rename_i h0
  subst h0
  split at h
  ·rename_i zv hzv
   cases h
   have hex : ∃ zu : Array Value, ((c' * i.size = 0 ∧ zu = #[]) ∨ (c' * i.size ≠ 0 ∧ ∃ zv, i.zero = some zv ∧ zv.cells = zu)) := by
    by_cases h0 : c' * i.size = 0
    ·exact ⟨#[], .inl ⟨h0, rfl⟩⟩
    ·exact ⟨zv.cells, .inr ⟨h0, zv, hzv, rfl⟩⟩
   obtain ⟨zu, hzu⟩ := hex
   exact ⟨((Array.range (c' * i.size)).map (zu[· % zu.size]!)).toList, e, 0, c', by rw [Array.toArray_toList]; exact hrun zu hzu, .inr ⟨i.size, hsz, rfl, rfl, rfl, by simp⟩⟩
  ·cases h
 ·rename_i hl0
  split at h
  case h_2 => cases h
  rename_i z hz
  split at h
  case isFalse => cases h
  rename_i hzl
  cases h
  obtain ⟨i', zv, us, g1, g2, g3, g4⟩ := C4 (k := k) hz
  rw [hi] at g1; cases g1
  have hr := Sq g4 c'
  rw [hzl] at hr
  have hc0 : c' * i.size ≠ 0 := Nat.mul_ne_zero (by omega) (by omega)
  exact ⟨_, e, l', c', by rw [Array.toArray_toList]; exact hrun us.toArray (.inr ⟨hc0, zv, g2, g3⟩), .inl ⟨_, rfl, rfl, hr, hle, hmx⟩⟩

theorem Jh (hI : Inv w0 σ k) {t : TypeId} {l c a : A} {lv cv : Value} (hl : Rel k l lv) (hc : Rel k c cv) (h : Ep P t l c σ = some (a, σ')) :
  ∃ k' v, (Instr.makeSlice t lv cv).run P k.w = .ok v k'.w ∧ Rel k' a v ∧ Inv w0 σ' k' ∧ k.le k' := by
 obtain ⟨us, e, l', c', hrun, ⟨z, rfl, rfl, hr, hle, hcx⟩ | ⟨sz, hsz, rfl, rfl, rfl, hlen⟩⟩ := Gi k hl hc h
 ·obtain ⟨q1, q2, q3⟩ := hI.push (x := .cells z e) (o := .cells us.toArray e) (.of hr)
  exact ⟨_, _, hrun, .ms q3 hle hcx, q1, q2⟩
 ·obtain ⟨g1, g2⟩ := hI.layTok (us := us.toArray) (e := e) (lo := 0) (hi := 0) (n := 0) (Nat.zero_le _) (.inl rfl)
  refine ⟨_, _, hrun, ?_, g1, g2⟩
  have hblk : (k.w.alloc (.cells us.toArray e)).heap[k.w.heap.size]? = some (.cells us.toArray e (0, 0)) := Ag k.w _
  exact Sr (k := k.layTok (.cells us.toArray e (0, 0)) 0 σ.nextT) hsz (if_pos rfl) (if_pos rfl) hblk (by simp [hlen])

theorem Ik {x a : A} {u : Value} {xt t : TypeId} {ok : Bool} (hx : Rel k x u) (h : Fq P x t ok = some a) : ∃ v, (Instr.typeAssert u xt t ok).run P k.w = .ok v k.w ∧ Rel k a v := by
 have hholds : ∀ {y : A} {uv : Value} {a : A}, Rel k y uv → some (if ok then A.tup [y, .v (.bool true)] else y) = some a → ∃ v, ((pure (if ok then .tuple #[uv, .bool true] else uv)) : Sem Value).run P k.w = .ok v k.w ∧ Rel k a v := by
  intro y uv a hy h
  cases h
  cases ok
  ·exact ⟨uv, rfl, hy⟩
  ·exact ⟨_, rfl, E7 hy Ct⟩
 have hfails : ∀ {st dy : Option TypeId} {ms : String} {a : A}, (if ok then (match Kt P t with | some z => some (A.tup [z, .v (.bool false)]) | none => none) else none) = some a →
   ∃ v, ((if ok then (do pure (.tuple #[← zeroValue t, .bool false])) else runtimePanic (.typeAssertion st dy t ms)) : Sem Value).run P k.w = .ok v k.w ∧ Rel k a v := by
  intro st dy ms a h
  cases ok
  ·simp at h
  ·simp only [if_true] at h ⊢
   split at h
   ·rename_i z hz
    cases h
    obtain ⟨i, zv, g1, g2, g3⟩ := Hx (k := k) hz
    exact ⟨.tuple #[zv, .bool false], by simp [Am g1 g2], E7 g3 Ct⟩
   ·cases h
 unfold Fq at h
 simp only at h
 split at h
 ·rename_i ms hu
  obtain rfl := rel_v_inv hx
  obtain ⟨v, g1, g2⟩ := hfails (st := none) (dy := none) (ms := "") h
  exact ⟨v, by simp only [Instr.typeAssert, Sem.run_bind, run_underlying hu, Result.andThen_ok]; exact g1, g2⟩
 ·rename_i ms d y hu
  cases hx with
  | ifc hy =>
   rename_i uv
   split at h
   ·rename_i i hi
    split at h
    ·rename_i hm
     obtain ⟨v, g1, g2⟩ := hholds (.ifc hy) h
     exact ⟨v, by simp only [Instr.typeAssert, Sem.run_bind, run_underlying hu, Result.andThen_ok, Bu hi, hm]; exact g1, g2⟩
    ·rename_i m hm
     obtain ⟨v, g1, g2⟩ := hfails (st := none) (dy := some d) (ms := m) h
     exact ⟨v, by simp only [Instr.typeAssert, Sem.run_bind, run_underlying hu, Result.andThen_ok, Bu hi, hm]; exact g1, g2⟩
   ·cases h
 ·rename_i d hu hni
  obtain rfl := rel_v_inv hx
  obtain ⟨v, g1, g2⟩ := hfails (st := some xt) (dy := none) (ms := "") h
  refine ⟨v, ?_, g2⟩
  simp only [Instr.typeAssert, Sem.run_bind, run_underlying hni, Result.andThen_ok]
  cases d <;> first | exact g1 | exact absurd rfl (hu _)
 ·rename_i d ty y hu hni
  cases hx with
  | ifc hy =>
   rename_i uv
   split at h
   ·rename_i he
    subst he
    obtain ⟨v, g1, g2⟩ := hholds hy h
    refine ⟨v, ?_, g2⟩
    simp only [Instr.typeAssert, Sem.run_bind, run_underlying hni, Result.andThen_ok]
    cases d <;> first | (simp only [if_true]; exact g1) | exact absurd rfl (hu _)
   ·rename_i he
    obtain ⟨v, g1, g2⟩ := hfails (st := some xt) (dy := some ty) (ms := "") h
    refine ⟨v, ?_, g2⟩
    simp only [Instr.typeAssert, Sem.run_bind, run_underlying hni, Result.andThen_ok]
    cases d <;> first | (rw [if_neg he]; exact g1) | exact absurd rfl (hu _)
 ·cases h

theorem Gv : ∀ {cs : List A} {us : List Value} {bs : List UInt8}, RelL k cs us → Dv cs = some bs → us = us ∧ us.length = bs.length ∧ ∀ (j : Nat) (u : Value), us[j]? = some u → ∃ n : Int, u = .int .u8 n ∧ bs[j]? = some (UInt8.ofNat n.toNat)
 | [], us, bs, hr, h => by
  simp only [Dv] at h; cases h
  rw [hr.inv_nil]
  exact ⟨rfl, rfl, fun j u h => by simp at h⟩
 | a :: cs, us, bs, hr, h => by
  obtain ⟨u, us', rfl, h1, h2⟩ := hr.inv_cons
  unfold Dv at h
  split at h
  ·rename_i heq; cases heq
  ·rename_i n r heq
   cases heq
   split at h
   ·rename_i bs' hb
    cases h
    obtain ⟨_, l1, l2⟩ := Gv h2 hb
    obtain rfl := rel_v_inv h1
    refine ⟨rfl, by simp [l1], fun j u hu => ?_⟩
    cases j with
    | zero => simp at hu; subst hu; exact ⟨n, rfl, rfl⟩
    | succ j => simp at hu ⊢; exact l2 j u hu
   ·cases h
  ·cases h

theorem K6 (w : World) (f : Value → ByteArray → Sem (ForInStep ByteArray)) (hf : ∀ (n : Int) (s : ByteArray), (f (.int .u8 n) s).run P w = .ok (.yield (s.push (UInt8.ofNat n.toNat))) w) : ∀ (us : List Value) (bs : List UInt8) (acc : ByteArray), us.length = bs.length →
  (∀ (j : Nat) (u : Value), us[j]? = some u → ∃ n : Int, u = .int .u8 n ∧ bs[j]? = some (UInt8.ofNat n.toNat)) → (forIn us acc f : Sem ByteArray).run P w = .ok ⟨(acc.data.toList ++ bs).toArray⟩ w
 | [], bs, acc, hl, _ => by
  have : bs = [] := List.eq_nil_of_length_eq_zero hl.symm
  subst this
  simp
 | u :: us, bs, acc, hl, h => by
  match bs, hl with
  | b :: bs, hl =>
   obtain ⟨n, rfl, hb⟩ := h 0 u rfl
   simp at hb
   subst hb
   have ih := K6 w f hf us bs (acc.push (UInt8.ofNat n.toNat)) (by simpa using hl) (fun j u hu => by simpa using h (j + 1) u (by simpa using hu))
   simp only [List.forIn_cons, Sem.run_bind, hf, Result.andThen_ok]
   rw [ih]
   simp [ByteArray.push]

theorem Ms {c i : Nat} {cs : List A} {bs : List UInt8} (h : CellsAt k c i cs) (hb : Dv cs = some bs) (cap : Nat) : (Conv.bytesToString (.slice (some ⟨c, i, none⟩) cs.length cap)).run P k.w = .ok (.string ⟨bs.toArray⟩) k.w := by
 obtain ⟨us, g1, g2⟩ := h.load (P := P)
 obtain ⟨_, l1, l2⟩ := Gv g1 hb
 simp only [Conv.bytesToString, Sem.run_bind, g2, Result.andThen_ok]
 rw [← Array.forIn_toList]
 rw [K6 (P := P) k.w _ (fun n s => rfl) us bs ByteArray.empty l1 l2]
 simp

theorem Hy (hI : Inv w0 σ k) (e : TypeId) (s : ByteArray) : ∃ k' v, (Conv.stringToBytes e s).run P k.w = .ok v k'.w ∧ Rel k' (.sl 1 (C6 s) .no) v ∧ Inv w0 σ k' ∧ k.le k' := by
 obtain ⟨hI1, hle1⟩ := hI.drew
 obtain ⟨cap, hcut, hcapge⟩ : ∃ cap, (Question.appendCap s.size 0 e).cut (k.w.tape k.w.drawn (Question.appendCap s.size 0 e)) = cap ∧ s.size ≤ cap := ⟨_, rfl, by simp [Question.cut]⟩
 have hlen : (C6 s).length = s.size := by simp [C6]
 have hq : (Question.appendCap s.size 0 e).forced = false := rfl
 obtain ⟨arr, harr⟩ : ∃ arr : Array Value, arr = s.data.map (fun b : UInt8 => Value.int .u8 b.toNat) ++ Array.replicate (cap - s.size) (Value.int .u8 0) := ⟨_, rfl⟩
 have hsz : arr.size = cap := by
  rw [harr]
  simp only [Array.size_append, Array.size_map, Array.size_replicate]
  have : s.data.size = s.size := rfl
  omega
 obtain ⟨hI2, hle2, f2, o2⟩ := hI1.lay (us := arr) (e := e) (fr := (0, 0)) (n := s.size) (by rw [hsz]; exact hcapge)
 have hblk : ((k.wd k.w.drew).lay (.cells arr e (0, 0)) s.size).w.heap[k.w.heap.size]? = some (.cells arr e (0, 0)) := Ag k.w.drew _
 obtain ⟨hI3, hle3⟩ := hI2.freeze (a := cap) (m := 1) f2 hblk hI.below.size (.inl o2)
 have hshape : ((k.w.drew).alloc (.cells arr e)).shape? k.w.heap.size = some (e, cap) := by
  simp only [World.shape?]
  rw [show ((k.w.drew).alloc (.cells arr e)).heap[k.w.heap.size]? = some (.cells arr e (0, 0)) from Ag k.w.drew _]
  simp only [hsz]
 refine ⟨_, .slice (some ⟨k.w.heap.size, 0, none⟩) s.size cap, ?_, ?_, hI3, hle1.trans (hle2.trans hle3)⟩
 ·simp only [Conv.stringToBytes, Sem.run_bind, run_choose, hq, Bool.false_eq_true, if_false, hcut, Result.andThen_ok, World.drew_eq, newRow, run_newObj, Sem.run_pure, World.alloc_eq, markStringish, run_shape, World.size_drew, ← harr, hshape, run_freeze]
  rfl
 ·have key : Rel ((k.wd k.w.drew).lay (.cells arr e (0, 0)) s.size) (.sl 1 (C6 s) .no) (.slice (some ⟨k.w.heap.size, 0, none⟩) ((C6 s).length / 1) cap) := by
   refine .sl (n := s.size) (fun j => (s.data.toList.map (fun b : UInt8 => Value.int .u8 b.toNat)).getD j undef) f2 (by omega) (fun j a ha => ?_) (fun j a ha => ?_) (by omega) (by simp) (by rw [hlen]; simpa using hcapge) trivial
   ·obtain ⟨u, w1, _⟩ := (Es (k := k) s).get ha
    refine (Bl hblk).trans ?_
    have hj : j < s.data.size := by have := Be ha; rw [hlen] at this; exact this
    rw [Nat.zero_add, harr, Array.getElem?_append_left (by simpa using hj)]
    obtain ⟨x, hx⟩ : ∃ x, s.data[j]? = some x := ⟨_, Array.getElem?_eq_getElem hj⟩
    simp only [Array.getElem?_map, List.getD, List.getElem?_map, Array.getElem?_toList, hx, Option.map_some, Option.getD_some]
   ·obtain ⟨u, w1, w2⟩ := (Es (k := (k.wd k.w.drew).lay (.cells arr e (0, 0)) s.size) s).get ha
    simp only [List.getD, w1, Option.getD_some]
    exact w2
  rw [hlen, Nat.div_one] at key
  exact key.mono hle3

theorem K7 (hI : Inv w0 σ k) {s d : TypeId} {x a : A} {u : Value} (hx : Rel k x u) (h : D8 P s d x σ = some (a, σ')) :
  ∃ k' v, (convert s d u).run P k.w = .ok v k'.w ∧ Rel k' a v ∧ Inv w0 σ' k' ∧ k.le k' := by
 unfold D8 at h
 split at h
 ·rename_i e str h1 h2
  split at h
  ·rename_i i h3 h4
   split at h
   ·cases h
    obtain rfl := rel_v_inv hx
    obtain ⟨k', v, g1, g2, g3, g4⟩ := Hy (P := P) hI e str
    exact ⟨k', v, by simp only [convert, Sem.run_bind, run_underlying h1, run_underlying h2, Result.andThen_ok, run_underlying h3]; exact g1, g2, g3, g4⟩
   ·cases h
  ·cases h
 ·rename_i e e' cs h1 h2
  split at h
  ·rename_i h3
   split at h
   ·rename_i hsd
    cases h
    obtain ⟨b, len, cap, rfl⟩ : ∃ b len cap, u = .slice b len cap := by obtain ⟨c, cap, h⟩ := hx.slInv; exact ⟨_, _, _, h⟩
    obtain ⟨c, i, n, f, rfl, hlen, q1, q2, q3, q4, q5, q6, q7, q8⟩ := hx.slFull (.inr (by simp))
    subst hlen
    obtain ⟨csv, e2, fr, g1, g2⟩ := hI.frz c n q1
    obtain ⟨lo, hi⟩ := fr
    obtain ⟨p1, p2⟩ := hI.freeze (a := csv.size) (m := 1) q1 g1 (by rw [← hI.base]; exact q8.2.1) (.inl q8.2.2)
    refine ⟨_, _, ?_, hx.mono p2, p1, p2⟩
    have hshape : k.w.shape? c = some (e2, csv.size) := by simp [World.shape?, g1]
    subst hsd
    rw [h1] at h2; cases h2
    simp only [convert, Sem.run_bind, run_underlying h1, Result.andThen_ok, beq_self_eq_true, run_underlying h3, markStringish, run_shape, hshape, run_freeze, Sem.run_pure]
    rfl
   ·cases h
  ·cases h
 ·rename_i e cs ap h1 h2 h3
  split at h
  ·rename_i bs h4 h5
   cases h
   by_cases hne : ap = []
   ·subst hne
    simp only [Dv] at h5
    cases h5
    obtain ⟨c, cap, rfl⟩ := hx.slInv
    refine ⟨k, .string ⟨#[]⟩, ?_, .v rfl, hI, K.le.refl k⟩
    simp only [convert, Sem.run_bind, run_underlying h2, run_underlying h3, Result.andThen_ok, run_underlying h4]
    have hz : ([] : List A).length / 1 = 0 := rfl
    rw [hz]
    rfl
   obtain ⟨c, i, cap, rfl, hsp⟩ := hx.slInv' hne
   obtain ⟨c0, i0, n, f, q0, hlen, q1, q2, q3, q4, q5, q6, q7, q8⟩ := hx.slFull (.inl hne)
   cases q0
   have hr := Ms (P := P) (k := k) (c := c) (i := i) (fun j a ha => ⟨_, q3 j a ha, q4 j a ha⟩) h5 cap
   refine ⟨k, .string ⟨bs.toArray⟩, ?_, .v rfl, hI, K.le.refl k⟩
   simp only [convert, Sem.run_bind, run_underlying h2, run_underlying h3, Result.andThen_ok, run_underlying h4, Nat.div_one]
   exact hr
  ·cases h
 ·rename_i e b o len cap h1 h2
  split at h
  ·rename_i cs e2 h4 h5
   split at h
   ·rename_i hfit
    split at h
    ·rename_i bs hb
     cases h
     obtain ⟨c, cap', rfl, hbk, _, _⟩ := hx.msInv
     ·obtain ⟨g, _⟩ := hI.cellsAt h5 hbk
      have hlen : ((cs.drop o).take len).length = len := by rw [List.length_take, List.length_drop]; omega
      have hr := Ms (P := P) (g.sub o len) hb cap'
      rw [hlen, Nat.zero_add] at hr
      refine ⟨k, .string ⟨bs.toArray⟩, ?_, .v rfl, hI, K.le.refl k⟩
      simp only [convert, Sem.run_bind, run_underlying h1, run_underlying h2, Result.andThen_ok, run_underlying h4]
      exact hr
    ·cases h
   ·cases h
  ·cases h
 ·rename_i t b o h1 h2
  split at h
  ·rename_i n cs e h3 h4
   split at h
   ·rename_i hq
    cases h
    cases hx with
    | ptr hb =>
     rename_i c
     obtain ⟨_, _, us, ws, e2, g1, g2, _⟩ := hI.cellsAt h4 hb
     refine ⟨k, _, ?_, .ptr hb, hI, K.le.refl k⟩
     have hshape : k.w.shape? c = some (e2, (us ++ ws).length) := by simp [World.shape?, g1]
     have hn : ¬ n = 0 := by omega
     have ho : ¬ us.length + ws.length ≤ o := by rw [← g2.1]; omega
     simp only [convert, Sem.run_bind, run_underlying h1, run_underlying h2, Result.andThen_ok, Conv.unsafePointer, Conv.seenAt, viewAt, run_shape, hshape, Option.isSome_some, if_true, Sem.run_pure, cellsIn, Ah h3]
     simp [hn, ho]
   ·cases h
  ·cases h
 ·rename_i t b o h1 h2
  split at h
  ·rename_i n cs e h3 h4
   split at h
   ·rename_i hq
    cases h
    cases hx with
    | ptr hb =>
     rename_i c
     obtain ⟨_, _, us, g1, g2, _⟩ := hI.cellsEx h4 hb hq.2.1
     refine ⟨k, _, ?_, .ptr hb, hI, K.le.refl k⟩
     have hshape : k.w.shape? c = some (e, us.length) := by simp [World.shape?, g1]
     have hv : liesAt P P.depth e (us.length / P.cellsOf e) o t 1 = true := by rw [← g2.1]; exact hq.2.2
     simp only [convert, Sem.run_bind, run_underlying h1, run_underlying h2, Result.andThen_ok, Conv.unsafePointer, Conv.seenAt, viewAt, run_shape, hshape, Option.isSome_some, if_true, Sem.run_pure, Ah h3, variablesAt, run_program, hv]
     simp
   ·cases h
  ·cases h
 ·cases h
end
end Go.DM
namespace Go.DM
open Go Go.RowKit

section
variable {P : Program} {w0 : World} {σ σ' : St} {k : K}

theorem Ji {b : Nat} {u : Value} (h : Rel k (.mp b) u) : ∃ c, u = .map (some c) ∧ k.blk b = some c := by
 cases h with
 | mp hb => exact ⟨_, rfl, hb⟩
theorem Inv.mapAt (hI : Inv w0 σ k) {b c clock : Nat} {es : List (Value × A × Nat)} (hg : σ.blks.get b = some (.map es clock)) (hb : k.blk b = some c) : ∃ fs : List MapEntry, k.w.heap[c]? = some (.map fs.toArray clock) ∧ EsRel k es fs := by
 obtain ⟨c', o, h1, h2, h3, h4, fs, rfl, h5⟩ := hI.blk b _ hg
 rw [hb] at h1; cases h1
 exact ⟨fs, h4, h5⟩
theorem B5 {w : World} {r clock : Nat} {es : Array MapEntry} (hb : w.heap[r]? = some (.map es clock)) : (getObj r).run P w = .ok (.map es clock) w := by simp [getObj, Sem.run, hb]
theorem C0 {w : World} {r clock : Nat} {es : Array MapEntry} (o : Obj) (hb : w.heap[r]? = some (.map es clock)) : (setObj r o).run P w = .ok () (w.setO r o) := by simp [setObj, Sem.run, hb, World.setO]

theorem T3 (hI : Inv w0 σ k) {ats : Array TypeId} {ty t : TypeId} {x : A} {u : Value} {n : Nat} (h0 : ats[0]? = some t) (hx : Rel k x u) (h : Ku P t x σ = some n) : (Builtin.len_ ats ty #[u]).run P k.w = .ok (.int .i64 (n : Nat)) k.w := by
 unfold Ku at h
 split at h
 ·rename_i hu; cases h
  obtain ⟨c, cap, rfl⟩ := hx.slInv
  simp [Builtin.len_, h0, run_underlying hu, goInt]
 ·rename_i hu; cases h
  cases hx <;>
  simp [Builtin.len_, h0, run_underlying hu, goInt]
 ·rename_i b hu
  obtain ⟨c, rfl, hb⟩ := Ji hx
  split at h
  ·rename_i es clock hg
   cases h
   obtain ⟨fs, h1, h2⟩ := hI.mapAt hg hb
   simp [Builtin.len_, h0, run_underlying hu, B5 h1, goInt, h2.1]
  ·cases h
 ·rename_i hu; cases h
  simp [Builtin.len_, h0, run_underlying hu, goInt]
 ·cases h

theorem Jj {ats : Array TypeId} {ty : TypeId} {x a : A} {u : Value} (hx : Rel k x u) (h : Gr x = some a) : ∃ v, (Builtin.unsafeSliceData_ ats ty #[u]).run P k.w = .ok v k.w ∧ Rel k a v := by
 unfold Gr at h
 split at h
 ·rename_i sz cs ap
  split at h
  ·rename_i hl
   cases h
   obtain ⟨b, len, cap, rfl⟩ : ∃ b len cap, u = .slice b len cap := by obtain ⟨c, cap, h⟩ := hx.slInv; exact ⟨_, _, _, h⟩
   obtain ⟨c, i, n, f, rfl, hlen, q1, q2, q3, q4, q5, q6, q7, q8⟩ := hx.slFull (.inl (fun e => by rw [e] at hl; simp at hl))
   have hc : cap ≠ 0 := by
    intro h0
    have : len = 0 := by omega
    rw [this] at q6; omega
   have hdef : Builtin.unsafeSliceData_ ats ty #[.slice (some ⟨c, i, none⟩) len cap] = (if cap ≠ 0 then pure (.pointer (some ⟨c, i, none⟩)) else do
     if (← viewAt (⟨c, i, none⟩ : Addr).block).isSome then pure (.pointer (some ⟨c, i, none⟩)) else pure (.pointer (some ⟨← newObj (.view ⟨c, i, none⟩ (← elemOf ty)), 0, none⟩))) := rfl
   refine ⟨.pointer (some ⟨c, i + 0, none⟩), by rw [hdef, if_pos hc]; rfl, .sp f q1 q2 q3 q4 ?_⟩
   cases ap with
   | gr id => exact q8.1
   | no => trivial
   | ex => trivial
  ·cases h
 ·cases h

theorem Pk {e : TypeId} {count off n : Nat} (hs : P.cellsOf e = 1) (hf : off + n ≤ count) : liesAt P P.depth e (count / P.cellsOf e) off e n = true := by
 obtain ⟨d, hd⟩ : ∃ d, P.depth = d + 1 := ⟨2 * (P.types.size + Made.depth) + 1, rfl⟩
 rw [hs, Nat.div_one, hd]
 unfold liesAt
 rw [hd]
 have : rowAt P (sameLayout P (d + 1) · e) (d + 1) e count off n = true := by
  unfold rowAt
  rw [hs]
  have hl : sameLayout P (d + 1) e e = true := by unfold sameLayout; simp
  simp [Nat.mod_one, hf, hl]
 rw [this]; rfl

theorem Hp (w : World) : ∀ (n i : Nat) (c : Nat) (us : List Value) (bs : List UInt8) (acc : ByteArray), us.length = n → us.length = bs.length → (∀ (j : Nat) (v : Value), us[j]? = some v → w.cell? ⟨c, i + j, none⟩ = some v) →
  (∀ (j : Nat) (u : Value), us[j]? = some u → ∃ n : Int, u = .int .u8 n ∧ bs[j]? = some (UInt8.ofNat n.toNat)) → (loadBytes ⟨c, i, none⟩ acc n).run P w = .ok ⟨(acc.data.toList ++ bs).toArray⟩ w
 | 0, i, c, us, bs, acc, h1, h2, _, _ => by
  have : us = [] := List.eq_nil_of_length_eq_zero h1
  subst this
  have : bs = [] := List.eq_nil_of_length_eq_zero h2.symm
  subst this
  simp [loadBytes]
 | n + 1, i, c, us, bs, acc, h1, h2, h3, h4 => by
  match us, bs, h1, h2 with
  | u :: us, b :: bs, h1, h2 =>
   obtain ⟨m, rfl, hb⟩ := h4 0 u rfl
   simp at hb
   subst hb
   have hc := h3 0 _ rfl
   rw [Nat.add_zero] at hc
   have ih := Hp w n (i + 1) c us bs (acc.push (m.toNat.toUInt8)) (by simpa using h1) (by simpa using h2) (fun j v hv => by
    have := h3 (j + 1) v (by simpa using hv)
    rw [← this]; congr 2; omega) (fun j u hu => by simpa using h4 (j + 1) u (by simpa using hu))
   simp only [loadBytes, Sem.run_bind, run_load, hc, Result.andThen_ok]
   rw [A6, ih]
   simp [ByteArray.push]

theorem Hi (hI : Inv w0 σ k) {ats : Array TypeId} {ty pt : TypeId} {x n a : A} {u nv : Value} (h0 : ats[0]? = some pt) (hx : Rel k x u) (hn : Rel k n nv) (h : Eg P pt x n σ = some a) :
  ∃ k' v, (Builtin.unsafeString_ ats ty #[u, nv]).run P k.w = .ok v k'.w ∧ Rel k' a v ∧ Inv w0 σ k' ∧ k.le k' := by
 unfold Eg at h
 split at h
 ·rename_i cs id m e hm hpt
  obtain ⟨kd, i', rfl, p1, p2⟩ := Ei hm
  obtain rfl := rel_v_inv hn
  split at h
  ·rename_i ti e2 hu8 hi hlv
   split at h
   ·rename_i hq
    obtain ⟨hsz, rfl, hpos, hle, hmax⟩ := hq
    split at h
    ·rename_i bs hb
     cases h
     obtain ⟨c, y, rfl⟩ := hx.spInv
     cases hx with
     | @sp _ _ _ i fz _ f q1 q2 q3 q4 q5 =>
      obtain ⟨l1, c', n', csv, lo, hi', g1, g2, g3, g4, g5⟩ := hI.tok id e2 hlv
      have q5' : k.own id = some c := q5
      rw [q5'] at g1; cases g1
      rw [q1] at g3; cases g3
      have hcells : P.cellsOf e2 = 1 := by simp [Program.cellsOf, hi, hsz]
      obtain ⟨csz, e3, fr3, w1, w2⟩ := hI.frz c fz q1
      rw [g4] at w1; cases w1
      have hshape : k.w.shape? c = some (e2, csv.size) := by simp [World.shape?, g4]
      have hlies : liesAt P P.depth e2 (csv.size / P.cellsOf e2) i e2 m = true := Pk hcells (by omega)
      have hca : CellsAt k c i cs := fun j a ha => ⟨_, q3 j a ha, q4 j a ha⟩
      obtain ⟨us, r1, r2⟩ := (hca.sub 0 m).list
      simp only [List.drop_zero, Nat.add_zero] at r1 r2
      obtain ⟨_, r3, r4⟩ := Gv r1 hb
      have hul : us.length = m := by rw [← r1.1, List.length_take]; omega
      have hld := Hp (P := P) k.w m i c us bs .empty hul r3 r2 r4
      obtain ⟨f1, f2⟩ := hI.freeze (a := i) (m := m) q1 g4 g2 (.inr ⟨by omega, g5⟩)
      refine ⟨_, .string ⟨bs.toArray⟩, ?_, .v rfl, f1, f2⟩
      have t1 : ¬ (i' < 0) := by omega
      have t2 : ¬ (i' > IntKind.i64.max) := by
       have : IntKind.i64.max = 9223372036854775807 := by decide
       omega
      have t3 : ¬ (i' = 0) := by omega
      simp only [Nat.add_zero]
      have hdef : Builtin.unsafeString_ ats ty #[.pointer (some ⟨c, i, none⟩), .int kd i'] = (do
       let n ← asInt (.int kd i')
       let some pt := ats[0]? | stuck "unsafe.String: no argument types"
       if n < 0 then runtimePanic (.error "unsafe.String: len out of range")
       if n > IntKind.i64.max then unsupported (.unsafePointer "String: a length above the largest int")
       if n = 0 then pure (.string .empty)
       else if ← variablesAt ⟨c, i, none⟩ (← elemOf pt) n.toNat then do
        let s ← loadBytes ⟨c, i, none⟩ .empty n.toNat
        freeze ⟨c, i, none⟩ n.toNat
        pure (.string s)
       else unsupported (.unsafePointer "String: not so many bytes at ptr")) := rfl
      rw [hdef]
      simp only [asInt, asIntOf, h0, Sem.run_bind, Sem.run_pure, Result.andThen_ok, Sem.run_ite, if_neg t1, if_neg t2, if_neg t3, elemOf, run_underlying hpt, variablesAt, run_program, run_shape, hshape, p2, hlies, if_true, hld, run_freeze]
      simp [K.wd]
    ·cases h
   ·cases h
  ·cases h
 ·cases h

theorem U1 (d : TypeDesc) (x y : Value) : Instr.sameNow d x y = Dx d x y := by
 cases d <;> first | rfl | (cases x <;> first | rfl | (cases y <;> rfl))
theorem B6 {d : TypeDesc} {kv : Value} : ∀ {es : List (Value × A × Nat)} {fs : List MapEntry} {i : Nat} {r : Option (Nat × A × Nat)}, EsRel k es fs → Ig d kv es i = some r →
  (r = none ∧ Instr.findNow d kv fs i = some none) ∨ ∃ j x b f, r = some (i + j, x, b) ∧ Instr.findNow d kv fs i = some (some (i + j, f.val)) ∧ fs[j]? = some f ∧ Rel k x f.val ∧ f.born = b ∧ Dx d kv f.key = some true ∧ (∃ e, es[j]? = some e ∧ e.2 = (x, b))
 | [], fs, i, r, hr, h => by
  simp only [Ig] at h; cases h
  have : fs = [] := List.eq_nil_of_length_eq_zero (by simpa using hr.1.symm)
  subst this
  exact .inl ⟨rfl, rfl⟩
 | (k', x, b) :: es, fs, i, r, hr, h => by
  match fs, hr with
  | f :: fs, hr =>
   obtain ⟨e1, e2, e3⟩ := hr.2 0 _ f rfl rfl
   simp only at e1 e2 e3
   simp only [Ig] at h
   simp only [Instr.findNow, U1, e1]
   split at h
   ·rename_i hs
    cases h
    rw [hs]
    exact .inr ⟨0, x, b, f, rfl, rfl, rfl, e3, e2, by rw [e1]; exact hs, _, rfl, rfl⟩
   ·rename_i hs
    rw [hs]
    have hr' : EsRel k es fs := ⟨by simpa using hr.1, fun j a c ha hc => hr.2 (j + 1) a c (by simpa using ha) (by simpa using hc)⟩
    rcases B6 hr' h with h' | ⟨j, y, c, g, h1, h2, h3, h4, h5, h6, h7⟩
    ·exact .inl h'
    ·refine .inr ⟨j + 1, y, c, g, by rw [h1]; congr 2; omega, ?_, by simpa using h3, h4, h5, h6, by simpa using h7⟩
     simp only [h2]
     congr 3; omega
   ·cases h

theorem F0 {kt : TypeId} {d : TypeDesc} (hk : P.underlying kt = some d) (hd : (∃ i, d = .int i) ∨ d = .string ∨ d = .bool) (n : Nat) (b : Bool) (v : Value) (w : World) : (Instr.checkKey b (n + 1) kt v).run P w = .ok () w := by
 rcases hd with ⟨i, rfl⟩ | rfl | rfl <;> simp [Instr.checkKey, run_underlying hk]
theorem D2 {t : TypeId} {d : TypeDesc} {e : TypeId} (h : G6 P t = some (d, e)) : ∃ kt, P.underlying t = some (.map kt e) ∧ P.underlying kt = some d ∧ (∀ (b : Bool) (v : Value) (w : World), (Instr.checkKey b 10000 kt v).run P w = .ok () w) ∧ ((∃ i, d = .int i) ∨ d = .string ∨ d = .bool) := by
 unfold G6 at h
 split at h
 ·rename_i kt e' hu
  split at h
  ·rename_i i hk; cases h
   exact ⟨kt, hu, hk, fun b v w => F0 hk (.inl ⟨_, rfl⟩) 9999 b v w, .inl ⟨_, rfl⟩⟩
  ·rename_i hk; cases h
   exact ⟨kt, hu, hk, fun b v w => F0 hk (.inr (.inl rfl)) 9999 b v w, .inr (.inl rfl)⟩
  ·rename_i hk; cases h
   exact ⟨kt, hu, hk, fun b v w => F0 hk (.inr (.inr rfl)) 9999 b v w, .inr (.inr rfl)⟩
  ·cases h
 ·cases h

theorem B2 {w : World} {kt : TypeId} {d : TypeDesc} {kv : Value} {fs : List MapEntry} {r : Option (Nat × Value)} (hk : P.underlying kt = some d) (h : Instr.findNow d kv fs 0 = some r) : (Instr.findKey kt kv fs).run P w = .ok r w := by
 simp [Instr.findKey, run_underlying hk, h]

theorem Mi (hI : Inv w0 σ k) {t : TypeId} {m kx a : A} {mv kv : Value} {ok : Bool} (hm : Rel k m mv) (hk : Rel k kx kv) (h : Kv P t m kx ok σ = some a) : ∃ v, (Instr.lookup t mv kv ok).run P k.w = .ok v k.w ∧ Rel k a v := by
 unfold Kv at h
 split at h
 case h_2 => cases h
 rename_i d e kv' hd
 obtain rfl := rel_v_inv hk
 obtain ⟨kt, h1, h2, h3, h4⟩ := D2 hd
 split at h
 case isFalse => cases h
 have key : ∀ {es : List (Value × A × Nat)} {fs : List MapEntry}, EsRel k es fs → (match Ig d kv es 0 with
    | some (some (_, x, _)) => some (if ok then A.tup [x, .v (.bool true)] else x)
    | some none => match Kt P e with
     | some z => some (if ok then .tup [z, .v (.bool false)] else z)
     | none => none
    | none => none) = some a → ∃ r : Option (Nat × Value), Instr.findNow d kv fs 0 = some r ∧ ∃ v, ((match r with | some (_, v) => pure (v, true) | none => do pure (← zeroValue e, false)) : Sem (Value × Bool)).run P k.w = .ok v k.w ∧ Rel k a (if ok then .tuple #[v.1, .bool v.2] else v.1) := by
  intro es fs hr h
  split at h
  ·rename_i j x b hf
   cases h
   rcases B6 hr hf with ⟨h', _⟩ | ⟨j', x', b', f, h1, h2, h3, h4, h5, h6, h7⟩
   ·cases h'
   ·cases h1
    refine ⟨_, h2, (f.val, true), rfl, ?_⟩
    cases ok
    ·exact h4
    ·exact E7 h4 Ct
  ·rename_i hf
   split at h
   ·rename_i z hz
    cases h
    obtain ⟨i, zv, g1, g2, g3⟩ := Hx (k := k) hz
    rcases B6 hr hf with ⟨_, h2⟩ | ⟨j', x', b', f, h1, _⟩
    ·refine ⟨_, h2, (zv, false), by simp [Am g1 g2], ?_⟩
     cases ok
     ·exact g3
     ·exact E7 g3 Ct
    ·cases h1
   ·cases h
  ·cases h
 split at h
 case h_2 => cases h
 rename_i es hes
 split at hes
 ·cases hes
  obtain rfl := rel_v_inv hm
  obtain ⟨r, g1, v, g2, g3⟩ := key (es := []) (fs := []) ⟨rfl, fun j e f h => by simp at h⟩ h
  refine ⟨_, ?_, g3⟩
  have hf := B2 (P := P) (w := k.w) h2 g1
  simp only [Instr.lookup, Sem.run_bind, run_underlying h1, Result.andThen_ok, Sem.run_pure, h3]
  simp only [hf, Result.andThen_ok]
  cases r with
  | none =>
   simp only [Sem.run_bind, Sem.run_pure] at g2 ⊢
   cases hz : (zeroValue e).run P k.w with
   | ok z w' => rw [hz] at g2; simp only [Result.andThen_ok] at g2 ⊢; cases g2; rfl
   | halt _ _ => rw [hz] at g2; simp at g2
  | some y => obtain ⟨j, y⟩ := y; simp only [Sem.run_pure] at g2; cases g2; rfl
 ·rename_i b
  obtain ⟨c, rfl, hb⟩ := Ji hm
  split at hes
  ·rename_i es' clock hg
   cases hes
   obtain ⟨fs, f1, f2⟩ := hI.mapAt hg hb
   obtain ⟨r, g1, v, g2, g3⟩ := key f2 h
   refine ⟨_, ?_, g3⟩
   have hf := B2 (P := P) (w := k.w) h2 g1
   simp only [Instr.lookup, Sem.run_bind, run_underlying h1, Result.andThen_ok, B5 f1, Sem.run_pure, h3, hf]
   cases r with
   | none =>
    simp only [Sem.run_bind, Sem.run_pure] at g2 ⊢
    cases hz : (zeroValue e).run P k.w with
    | ok z w' => rw [hz] at g2; simp only [Result.andThen_ok] at g2 ⊢; cases g2; rfl
    | halt _ _ => rw [hz] at g2; simp at g2
   | some y => obtain ⟨j, y⟩ := y; simp only [Sem.run_pure] at g2; cases g2; rfl
  ·cases hes
 ·cases hes
end
end Go.DM
namespace Go.DM
open Go Go.RowKit

section
variable {P : Program} {w0 : World} {σ σ' : St} {k : K}

theorem Abx {a b : ByteArray} (h : (a == b) = true) : a = b := by
 obtain ⟨a⟩ := a; obtain ⟨b⟩ := b
 have : (a == b) = true := h
 simp at this; subst this; rfl
theorem Ss (a : ByteArray) : (a == a) = true := by
 obtain ⟨a⟩ := a
 show (a == a) = true
 simp
theorem Ra {d : TypeDesc} {x y : Value} (h : Dx d x y = some true) : x = y := by
 unfold Dx at h
 split at h
 ·rename_i a b c e
  by_cases hk : b = e
  ·subst hk; simp at h; subst h; rfl
  ·simp [hk] at h
 ·simp only [Option.some.injEq] at h; rw [Abx h]
 ·simp at h; subst h; rfl
 ·cases h
theorem N7 {d : TypeDesc} {x y : Value} (h : Dx d x y = some true) : ∀ n, Instr.sameBits n y x = true := by
 obtain rfl := Ra h
 unfold Dx at h
 split at h
 ·intro n; cases n <;> simp [Instr.sameBits]
 ·intro n; cases n <;> simp [Instr.sameBits, Ss]
 ·intro n; cases n <;> simp [Instr.sameBits]
 ·cases h
theorem E9 {d : TypeDesc} {x y : Value} (h : Dx d x y = some true) (w : World) : (Instr.keyThatStays y x).run P w = .ok x w := by
 unfold Instr.keyThatStays
 rw [N7 h]; rfl

theorem F1 {es : List (Value × A × Nat)} {fs : List MapEntry} (hr : EsRel k es fs) {i b : Nat} {kv : Value} {x : A} {e : Value × A × Nat} (he : es[i]? = some e) (hb : e.2.2 = b) (g : MapEntry → MapEntry)
  (hg : ∀ f, fs[i]? = some f → (g f).key = kv ∧ (g f).born = b ∧ Rel k x (g f).val) : EsRel k (Fs es i kv x) (fs.toArray.modify i g).toList := by
 have h0 : Fs es i kv x = es.set i (kv, x, b) := by
  obtain ⟨a, y, c⟩ := e
  simp only at hb; subst hb
  simp [Fs, he]
 rw [h0]
 refine ⟨by simp [hr.1], fun j e' f he' hf => ?_⟩
 have hlt := Be he
 rw [Array.getElem?_toList, Array.getElem?_modify] at hf
 rw [List.getElem?_set] at he'
 by_cases hij : i = j
 ·subst hij
  rw [if_pos rfl, if_pos hlt] at he'
  cases he'
  rw [if_pos rfl] at hf
  have hlt' : i < fs.length := by rw [← hr.1]; exact hlt
  simp [hlt'] at hf
  subst hf
  exact hg _ (List.getElem?_eq_getElem hlt')
 ·rw [if_neg hij] at he' hf
  exact hr.2 j e' f he' (by simpa using hf)
theorem K8 {es : List (Value × A × Nat)} {fs : List MapEntry} (hr : EsRel k es fs) {kv : Value} {x : A} {u : Value} {b : Nat} (hx : Rel k x u) : EsRel k (es ++ [(kv, x, b)]) (fs.toArray.push { key := kv, val := u, born := b }).toList := by
 refine ⟨by simp [hr.1], fun j e' f he' hf => ?_⟩
 rw [Array.getElem?_toList, Array.getElem?_push] at hf
 rw [List.getElem?_append] at he'
 by_cases hj : j < es.length
 ·rw [if_pos hj] at he'
  rw [if_neg (by simp [← hr.1]; omega)] at hf
  exact hr.2 j e' f he' (by simpa using hf)
 ·rw [if_neg hj] at he'
  have hj' : j = es.length := by
   have := Be he'
   simp at this; omega
  subst hj'
  simp at he'
  subst he'
  rw [if_pos (by simp [hr.1])] at hf
  cases hf
  exact ⟨rfl, rfl, hx⟩

theorem Inv.setMap (hI : Inv w0 σ k) {b c clock clock' : Nat} {es es' : List (Value × A × Nat)} {fs' : Array MapEntry} (hg : σ.blks.get b = some (.map es clock)) (hb : k.blk b = some c) (hr : EsRel k es' fs'.toList) :
  Inv w0 (σ.put b (.map es' clock')) (k.wd (k.w.setO c (.map fs' clock'))) ∧ k.le (k.wd (k.w.setO c (.map fs' clock'))) :=
 hI.setObj hg hb ⟨fs'.toList, by simp, hr⟩ (fun _ _ h => by cases h)

theorem Hq (hI : Inv w0 σ k) {t : TypeId} {m kx x : A} {mv kv xv : Value} (hm : Rel k m mv) (hk : Rel k kx kv) (hx : Rel k x xv) (h : Kw P t m kx x σ = some σ') :
  ∃ k', (Instr.mapUpdate t mv kv xv).run P k.w = .ok () k'.w ∧ Inv w0 σ' k' ∧ k.le k' := by
 unfold Kw at h
 split at h
 case h_2 => cases h
 rename_i d e b kv' hd
 obtain rfl := rel_v_inv hk
 obtain ⟨c, rfl, hb⟩ := Ji hm
 obtain ⟨kt, h1, h2, h3, h4⟩ := D2 hd
 split at h
 case isFalse => cases h
 split at h
 case h_2 => cases h
 rename_i es clock hg
 obtain ⟨fs, f1, f2⟩ := hI.mapAt hg hb
 split at h
 ·rename_i i y c' hf
  cases h
  rcases B6 f2 hf with ⟨h', _⟩ | ⟨j, x', b', f, g1, g2, g3, g4, g5, g6, e, g7, g8⟩
  ·cases h'
  ·cases g1
   rw [Nat.zero_add] at g2
   have hfk := B2 (P := P) (w := k.w) h2 g2
   have hr : EsRel k (Fs es j kv x) (fs.toArray.modify j fun e => { e with key := kv, val := xv }).toList := by
    refine F1 f2 (b := c') g7 (by rw [g8]) _ (fun f' hf' => ?_)
    rw [g3] at hf'; cases hf'
    exact ⟨rfl, g5, hx⟩
   obtain ⟨q1, q2⟩ := hI.setMap (clock' := clock) hg hb hr
   rw [Nat.zero_add]
   refine ⟨_, ?_, q1, q2⟩
   simp only [Instr.mapUpdate, Sem.run_bind, run_underlying h1, Result.andThen_ok, B5 f1, h3, hfk]
   simp only [List.getElem?_toArray, g3, Option.map_some, Option.getD_some]
   rw [E9 g6]
   simp only [Result.andThen_ok, C0 _ f1]
   rfl
 ·rename_i hf
  cases h
  rcases B6 f2 hf with ⟨_, g2⟩ | ⟨j, x', b', f, g1, _⟩
  ·have hfk := B2 (P := P) (w := k.w) h2 g2
   obtain ⟨q1, q2⟩ := hI.setMap (clock' := clock + 1) hg hb (K8 f2 (kv := kv) (b := clock) hx)
   refine ⟨_, ?_, q1, q2⟩
   simp only [Instr.mapUpdate, Sem.run_bind, run_underlying h1, Result.andThen_ok, B5 f1, h3, hfk, C0 _ f1]
   rfl
  ·cases g1
 ·cases h

theorem N8 (hI : Inv w0 σ k) {t : TypeId} {m kx a : A} {mv kv : Value} (hm : Rel k m mv) (hk : Rel k kx kv) (h : Nq P t m kx σ = some (a, σ')) :
  ∃ k' v, (Instr.mapEntry t mv kv).run P k.w = .ok v k'.w ∧ Rel k' a v ∧ Inv w0 σ' k' ∧ k.le k' := by
 unfold Nq at h
 split at h
 case h_2 => cases h
 rename_i d e b kv' hd
 obtain rfl := rel_v_inv hk
 obtain ⟨c, rfl, hb⟩ := Ji hm
 obtain ⟨kt, h1, h2, h3, h4⟩ := D2 hd
 split at h
 case isFalse => cases h
 split at h
 case h_2 => cases h
 rename_i es clock hg
 obtain ⟨fs, f1, f2⟩ := hI.mapAt hg hb
 split at h
 ·rename_i i y c' hf
  cases h
  rcases B6 f2 hf with ⟨h', _⟩ | ⟨j, x', b', f, g1, g2, g3, g4, g5, g6, e', g7, g8⟩
  ·cases h'
  ·cases g1
   rw [Nat.zero_add] at g2
   have hfk := B2 (P := P) (w := k.w) h2 g2
   have hr : EsRel k (Fs es j kv y) (fs.toArray.modify j fun e => { e with key := kv }).toList := by
    refine F1 f2 (b := c') g7 (by rw [g8]) _ (fun f' hf' => ?_)
    rw [g3] at hf'; cases hf'
    exact ⟨rfl, g5, g4⟩
   obtain ⟨q1, q2⟩ := hI.setMap (clock' := clock) hg hb hr
   rw [Nat.zero_add]
   refine ⟨_, .tuple #[f.val, .int .i64 (c' : Nat)], ?_, E7 (g4.mono q2) D1, q1, q2⟩
   simp only [Instr.mapEntry, Sem.run_bind, run_underlying h1, Result.andThen_ok, B5 f1, h3, hfk]
   simp only [List.getElem?_toArray, g3, Option.map_some, Option.getD_some]
   rw [E9 g6]
   simp only [Result.andThen_ok, C0 _ f1, g5, goInt, Sem.run_pure]
   rfl
 ·rename_i hf
  split at h
  case h_2 => cases h
  rename_i z hz
  cases h
  obtain ⟨i, zv, z1, z2, z3⟩ := Hx (k := k) hz
  rcases B6 f2 hf with ⟨_, g2⟩ | ⟨j, x', b', f, g1, _⟩
  ·have hfk := B2 (P := P) (w := k.w) h2 g2
   obtain ⟨q1, q2⟩ := hI.setMap (clock' := clock + 1) hg hb (K8 f2 (kv := kv) (b := clock) z3)
   refine ⟨_, .tuple #[zv, .int .i64 (clock : Nat)], ?_, E7 (z3.mono q2) D1, q1, q2⟩
   simp only [Instr.mapEntry, Sem.run_bind, run_underlying h1, Result.andThen_ok, B5 f1, h3, hfk, Am z1 z2, C0 _ f1, goInt, Sem.run_pure]
   rfl
  ·cases g1
 ·cases h

theorem Pl {es : List (Value × A × Nat)} {fs : List MapEntry} (hr : EsRel k es fs) {n : Int} {i : Nat} (h : Q0 es n = some i) : fs.toArray.findIdx? (fun e => (e.born : Int) == n) = some i := by
 unfold Q0 at h
 rw [List.findIdx?_toArray]
 rw [← h]
 clear h
 induction es generalizing fs with
 | nil =>
  have : fs = [] := List.eq_nil_of_length_eq_zero (by simpa using hr.1.symm)
  subst this; rfl
 | cons e es ih =>
  match fs, hr with
  | f :: fs, hr =>
   obtain ⟨_, h2, _⟩ := hr.2 0 _ f rfl rfl
   have hr' : EsRel k es fs := ⟨by simpa using hr.1, fun j a c ha hc => hr.2 (j + 1) a c (by simpa using ha) (by simpa using hc)⟩
   simp only [List.findIdx?_cons, h2, ih hr']
theorem Il (hI : Inv w0 σ k) {t : TypeId} {m s x : A} {mv sv xv : Value} (hm : Rel k m mv) (hs : Rel k s sv) (hx : Rel k x xv) (h : Ft m s x σ = some σ') :
  ∃ k', (Instr.entryStore t mv sv xv).run P k.w = .ok () k'.w ∧ Inv w0 σ' k' ∧ k.le k' := by
 unfold Ft at h
 split at h
 case h_2 => cases h
 rename_i b kd n
 obtain rfl := rel_v_inv hs
 obtain ⟨c, rfl, hb⟩ := Ji hm
 split at h
 case h_2 => cases h
 rename_i es clock hg
 obtain ⟨fs, f1, f2⟩ := hI.mapAt hg hb
 split at h
 case h_2 => cases h
 rename_i i hi
 split at h
 case h_2 => cases h
 rename_i key y bo he
 cases h
 have hr : EsRel k (Fs es i key x) (fs.toArray.modify i fun e => { e with val := xv }).toList := by
  refine F1 f2 (b := bo) he rfl _ (fun f' hf' => ?_)
  obtain ⟨q1, q2, _⟩ := f2.2 i _ f' he hf'
  exact ⟨q1, q2, hx⟩
 obtain ⟨q1, q2⟩ := hI.setMap (clock' := clock) hg hb hr
 refine ⟨_, ?_, q1, q2⟩
 simp only [Instr.entryStore, Sem.run_bind, B5 f1, Result.andThen_ok, asInt, asIntOf, Sem.run_pure, Pl f2 hi, C0 _ f1]
 rfl

theorem Pm {es : List (Value × A × Nat)} {fs : List MapEntry} (hr : EsRel k es fs) (i : Nat) : EsRel k (es.eraseIdx i) (fs.toArray.eraseIdxIfInBounds i).toList := by
 have h0 : (fs.toArray.eraseIdxIfInBounds i).toList = fs.eraseIdx i := by
  simp
 rw [h0]
 refine ⟨by simp [List.length_eraseIdx, hr.1], fun j e f he hf => ?_⟩
 rw [List.getElem?_eraseIdx] at he hf
 split at he
 ·rename_i hj; rw [if_pos hj] at hf; exact hr.2 j e f he hf
 ·rename_i hj; rw [if_neg hj] at hf; exact hr.2 _ e f he hf
theorem Mj (hI : Inv w0 σ k) {ats : Array TypeId} {ty t : TypeId} {m kx : A} {mv kv : Value} (h0 : ats[0]? = some t) (hm : Rel k m mv) (hk : Rel k kx kv) (h : Kx P t m kx σ = some σ') :
  ∃ k', (Builtin.delete_ ats ty #[mv, kv]).run P k.w = .ok (.tuple #[]) k'.w ∧ Inv w0 σ' k' ∧ k.le k' := by
 unfold Kx at h
 split at h
 case h_2 => cases h
 rename_i d e b kv' hd
 obtain rfl := rel_v_inv hk
 obtain ⟨c, rfl, hb⟩ := Ji hm
 obtain ⟨kt, h1, h2, h3, h4⟩ := D2 hd
 split at h
 case isFalse => cases h
 split at h
 case h_2 => cases h
 rename_i es clock hg
 obtain ⟨fs, f1, f2⟩ := hI.mapAt hg hb
 split at h
 ·rename_i i y c' hf
  cases h
  rcases B6 f2 hf with ⟨h', _⟩ | ⟨j, x', b', f, g1, g2, g3, g4, g5, g6, e', g7, g8⟩
  ·cases h'
  ·cases g1
   rw [Nat.zero_add] at g2
   have hfk := B2 (P := P) (w := k.w) h2 g2
   obtain ⟨q1, q2⟩ := hI.setMap (clock' := clock) hg hb (Pm f2 j)
   rw [Nat.zero_add]
   refine ⟨_, ?_, q1, q2⟩
   simp [Builtin.delete_, h0, run_underlying h1, B5 f1, h3, hfk, C0 _ f1]
   rfl
 ·rename_i hf
  cases h
  rcases B6 f2 hf with ⟨_, g2⟩ | ⟨j, x', b', f, g1, _⟩
  ·have hfk := B2 (P := P) (w := k.w) h2 g2
   obtain ⟨q1, q2⟩ := hI.setMap (clock' := clock) hg hb (fs' := fs.toArray) (by simpa using f2)
   refine ⟨_, ?_, q1, q2⟩
   simp [Builtin.delete_, h0, run_underlying h1, B5 f1, h3, hfk, C0 _ f1]
   rfl
  ·cases g1
 ·cases h

theorem N9 (hI : Inv w0 σ k) {t : TypeId} {x a : A} {u : Value} (hx : Rel k x u) (h : Nr P t x σ = some (a, σ')) :
  ∃ k' v, (Instr.range t u).run P k.w = .ok v k'.w ∧ Rel k' a v ∧ Inv w0 σ' k' ∧ k.le k' := by
 unfold Nr at h
 split at h
 case h_3 => cases h
 ·rename_i s hu
  cases h
  obtain rfl := rel_v_inv hx
  obtain ⟨q1, q2, q3⟩ := hI.push (x := .siter s 0) (o := .stringIter s 0) rfl
  refine ⟨_, .pointer (some ⟨k.w.heap.size, 0, none⟩), ?_, .ptr q3, q1, q2⟩
  simp [Instr.range, run_underlying hu]
  rfl
 ·rename_i b hu
  split at h
  case h_2 => cases h
  rename_i es clock hg
  cases h
  cases hx with
  | @mp _ c hb =>
  obtain ⟨c', o, h1, h2, h3, h4, h5⟩ := hI.blk b _ hg
  rw [hb] at h1; cases h1
  obtain ⟨fs, rfl, hes⟩ := h5
  have hget : (getObj c).run P k.w = .ok (.map fs.toArray clock) k.w := by simp [getObj, Sem.run, h4]
  obtain ⟨q1, q2, q3⟩ := hI.push (x := .miter b clock [] clock) (o := .mapIter (some c) clock #[] clock) ⟨c, hb, rfl⟩
  refine ⟨_, .pointer (some ⟨k.w.heap.size, 0, none⟩), ?_, .ptr q3, q1, q2⟩
  simp only [Instr.range, Sem.run_bind, run_underlying hu, Result.andThen_ok, hget, Sem.run_pure]
  rfl
theorem Oa {es : List (Value × A × Nat)} {fs : List MapEntry} (h : EsRel k es fs) (p : Nat → Bool) : EsRel k (es.filter fun e => p e.2.2) (fs.filter fun f => p f.born) := by
 induction es generalizing fs with
 | nil =>
  obtain ⟨h1, _⟩ := h
  cases fs with
  | nil => exact ⟨rfl, fun j e f he => by simp at he⟩
  | cons f r => cases h1
 | cons e r ih =>
  obtain ⟨h1, h2⟩ := h
  cases fs with
  | nil => cases h1
  | cons f q =>
   have hr : EsRel k r q := ⟨by simpa using h1, fun j x y hx hy => h2 (j + 1) x y (by simpa using hx) (by simpa using hy)⟩
   obtain ⟨e1, e2, e3⟩ := h2 0 e f rfl rfl
   obtain ⟨g1, g2⟩ := ih hr
   simp only [List.filter_cons, e2]
   cases p e.2.2 with
   | false => exact ⟨g1, g2⟩
   | true =>
    refine ⟨by simp [g1], fun j x y hx hy => ?_⟩
    cases j with
    | zero => simp at hx hy; subst hx; subst hy; exact ⟨e1, e2, e3⟩
    | succ j => simp at hx hy; exact g2 j x y hx hy
theorem T4 {es : List (Value × A × Nat)} {fs : List MapEntry} (h : EsRel k es fs) (p : Nat → Bool) : (es.all fun e => p e.2.2) = (fs.all fun f => p f.born) := by
 induction es generalizing fs with
 | nil =>
  obtain ⟨h1, _⟩ := h
  cases fs with
  | nil => rfl
  | cons f r => cases h1
 | cons e r ih =>
  obtain ⟨h1, h2⟩ := h
  cases fs with
  | nil => cases h1
  | cons f q =>
   have hr : EsRel k r q := ⟨by simpa using h1, fun j x y hx hy => h2 (j + 1) x y (by simpa using hx) (by simpa using hy)⟩
   obtain ⟨_, e2, _⟩ := h2 0 e f rfl rfl
   simp only [List.all_cons, e2, ih hr]
theorem Ob (hI : Inv w0 σ k) {b m since last clock c r : Nat} {seen : List Nat} {es : List (Value × A × Nat)} {a : A} {ty : TypeId} (hb : k.blk b = some r) (hg : σ.blks.get b = some (.miter m since seen last)) (hm : k.blk m = some c) (hgm : σ.blks.get m = some (.map es clock)) (h : Ns σ b m since seen last es clock = some (a, σ')) :
  ∃ k' v, (Instr.next (.pointer (some ⟨r, 0, none⟩)) false ty).run P k.w = .ok v k'.w ∧ Rel k' a v ∧ Inv w0 σ' k' ∧ k.le k' := by
 obtain ⟨c', o, h1, h2, h3, h4, h5⟩ := hI.blk b _ hg
 rw [hb] at h1; cases h1
 obtain ⟨c0, hm0, rfl⟩ := h5
 rw [hm] at hm0; cases hm0
 obtain ⟨c', o, h1, _, _, h6, h7⟩ := hI.blk m _ hgm
 rw [hm] at h1; cases h1
 obtain ⟨fs, rfl, hes⟩ := h7
 have hget : (getObj r).run P k.w = .ok (.mapIter (some c) since seen.toArray last) k.w := by simp [getObj, Sem.run, h4]
 have hgetm : (getObj c).run P k.w = .ok (.map fs.toArray clock) k.w := by simp [getObj, Sem.run, h6]
 unfold Ns at h
 split at h
 ·cases h
 rename_i hno
 have hno' : ¬ ((!seen.toArray.isEmpty && !fs.toArray.isEmpty && fs.toArray.all fun x => decide (x.born ≥ last)) = true) := by
  intro hx
  apply hno
  have e1 : es.isEmpty = fs.isEmpty := by cases es <;> cases fs <;> first | rfl | (have := hes.1; cases this)
  have e2 := T4 hes (fun n => decide (last ≤ n))
  simpa [e1, e2, List.all_eq_true] using hx
 have hfil := Oa hes (fun n => !seen.contains n)
 have hleft : (fs.toArray.filter fun e => !seen.toArray.contains e.born) = (fs.filter fun e => !seen.contains e.born).toArray := by simp
 split at h
 ·rename_i hnil
  cases h
  have hn : (fs.filter fun e => !seen.contains e.born) = [] := by
   have := hfil.1; rw [hnil] at this; exact List.eq_nil_of_length_eq_zero this.symm
  refine ⟨k, .tuple #[.bool false], ?_, ?_, hI, K.le.refl k⟩
  ·simp only [Instr.next, Sem.run_bind, hget, hgetm, Result.andThen_ok, if_neg hno', hleft, hn]
   have ho : ∀ p : MapEntry → Bool, (Array.filter p #[]) = #[] := fun p => by simp
   simp only [ho]
   simp [choose, Sem.run, Question.forced]
  ·have := RelL.cons (k := k) (Ct (b := false)) (RelL.nil _)
   exact .tup this.1 this.2
 ·rename_i e hone
  split at h
  case isFalse => cases h
  rename_i hlt
  split at h
  case h_2 => cases h
  rename_i ka hka
  cases h
  obtain ⟨f, hn⟩ : ∃ f, (fs.filter fun e => !seen.contains e.born) = [f] := by
   have hl := hfil.1
   rw [hone] at hl
   exact List.length_eq_one_iff.1 hl.symm
  obtain ⟨e1, e2, e3⟩ := hfil.2 0 e f (by rw [hone]; rfl) (by rw [hn]; rfl)
  obtain ⟨q1, q2⟩ := hI.setObj (x' := .miter m since (seen ++ [e.2.2]) clock) (o' := .mapIter (some c) since (seen ++ [e.2.2]).toArray clock) hg hb ⟨c, hm, rfl⟩ (fun _ _ h => by cases h)
  have hset : (setObj r (.mapIter (some c) since (seen ++ [e.2.2]).toArray clock)).run P k.w = .ok () (k.w.setO r (.mapIter (some c) since (seen ++ [e.2.2]).toArray clock)) := by simp [setObj, Sem.run, h4, World.setO]
  refine ⟨_, .tuple #[.bool true, f.key, f.val], ?_, ?_, q1, q2⟩
  ·simp only [Instr.next, Sem.run_bind, hget, hgetm, Result.andThen_ok, if_neg hno', hleft, hn]
   have hb1 : f.born < since := by rw [e2]; exact hlt
   have hb2 : ¬ (f.born ≥ since) := by omega
   have hold : ((#[f] : Array MapEntry).filter fun x => decide (x.born < since)) = #[f] := by simp [hb1]
   have hnew : ((#[f] : Array MapEntry).filter fun x => decide (x.born ≥ since)) = #[] := by simp [hb2]
   rw [hold, hnew]
   simp [choose, Sem.run, Question.forced]
   rw [e2, hset]
   rfl
  ·have hk : Rel k ka f.key := by rw [e1]; exact G8 hka
   have := RelL.cons (k := k) (Ct (b := true)) (RelL.cons hk (RelL.cons e3 (RelL.nil _)))
   have := this.mono q2
   exact .tup this.1 this.2
 ·cases h
theorem Pn (hI : Inv w0 σ k) {x a : A} {u : Value} {isS : Bool} {ty : TypeId} (hx : Rel k x u) (h : Q1 x isS σ = some (a, σ')) :
  ∃ k' v, (Instr.next u isS ty).run P k.w = .ok v k'.w ∧ Rel k' a v ∧ Inv w0 σ' k' ∧ k.le k' := by
 unfold Q1 at h
 split at h
 case h_3 => cases h
 case h_2 =>
  rename_i b
  cases hx with
  | @ptr _ _ c hb =>
  split at h
  case h_2 => cases h
  rename_i m since seen last hg
  split at h
  case h_2 => cases h
  rename_i es clock hgm
  obtain ⟨_, _, _, _, _, _, hc0, hm0, _⟩ := hI.blk b _ hg
  exact Ob hI hb hg hm0 hgm h
 rename_i b
 cases hx with
 | @ptr _ _ c hb =>
 split at h
 case h_2 => cases h
 rename_i s pos hg
 obtain ⟨c', o, h1, h2, h3, h4, h5⟩ := hI.blk b _ hg
 rw [hb] at h1; cases h1
 have h5' : o = .stringIter s pos := h5
 subst h5'
 have hget : (getObj c).run P k.w = .ok (.stringIter s pos) k.w := by simp [getObj, Sem.run, h4]
 split at h
 ·rename_i hlt
  cases h
  obtain ⟨q1, q2⟩ := hI.setObj (x' := .siter s (pos + (Utf8.decode s pos).2)) (o' := .stringIter s (pos + (Utf8.decode s pos).2)) hg hb rfl (fun _ _ h => by cases h)
  have hset : (setObj c (.stringIter s (pos + (Utf8.decode s pos).2))).run P k.w = .ok () (k.w.setO c (.stringIter s (pos + (Utf8.decode s pos).2))) := by simp [setObj, Sem.run, h4, World.setO]
  refine ⟨_, .tuple #[.bool true, .int .i64 (pos : Nat), .int .i32 (Utf8.decode s pos).1], ?_, ?_, q1, q2⟩
  ·simp only [Instr.next, Sem.run_bind, hget, Result.andThen_ok, if_pos hlt, hset, Sem.run_pure, goInt]
   rfl
  ·have := RelL.cons (k := k.wd (k.w.setO c (.stringIter s (pos + (Utf8.decode s pos).2)))) (Ct (b := true)) (RelL.cons (D1 (i := .i64) (n := ((pos : Nat) : Int))) (RelL.cons (D1 (i := .i32) (n := (Utf8.decode s pos).1)) (RelL.nil _)))
   exact .tup this.1 this.2
 ·rename_i hlt
  cases h
  refine ⟨k, .tuple #[.bool false], ?_, ?_, hI, K.le.refl k⟩
  ·simp only [Instr.next, Sem.run_bind, hget, Result.andThen_ok, if_neg hlt, Sem.run_pure]
  ·have := RelL.cons (k := k) (Ct (b := false)) (RelL.nil _)
   exact .tup this.1 this.2
theorem Rb {es : List (Value × A × Nat)} {fs : List MapEntry} (h : EsRel k es fs) (p : Nat → Bool) : match es.find? (fun e => p e.2.2), fs.find? (fun f => p f.born) with
  | none, none => True
  | some e, some f => f.key = e.1 ∧ Rel k e.2.1 f.val
  | _, _ => False := by
 induction es generalizing fs with
 | nil =>
  obtain ⟨h1, _⟩ := h
  cases fs with
  | nil => trivial
  | cons f r => cases h1
 | cons e r ih =>
  obtain ⟨h1, h2⟩ := h
  cases fs with
  | nil => cases h1
  | cons f q =>
   have hr : EsRel k r q := ⟨by simpa using h1, fun j x y hx hy => h2 (j + 1) x y (by simpa using hx) (by simpa using hy)⟩
   obtain ⟨e1, e2, e3⟩ := h2 0 e f rfl rfl
   rw [List.find?_cons, List.find?_cons, e2]
   cases p e.2.2 with
   | true => exact ⟨e1, e3⟩
   | false => exact ih hr
theorem K9 (hI : Inv w0 σ k) {x a : A} {u : Value} (hx : Rel k x u) (h : Ja x σ = some a) :
  ∃ v, (Instr.entry u).run P k.w = .ok v k.w ∧ Rel k a v := by
 unfold Ja at h
 split at h
 case h_2 => cases h
 rename_i b
 cases hx with
 | @ptr _ _ r hb =>
 split at h
 case h_2 => cases h
 rename_i m since seen stepped hg
 split at h
 case h_2 => cases h
 rename_i es clock stamp hgm hst
 split at h
 case isFalse => cases h
 rename_i hcl
 split at h
 case h_2 => cases h
 rename_i e hf
 split at h
 case h_2 => cases h
 rename_i ka hka
 cases h
 obtain ⟨c', o, h1, h2, h3, h4, h5⟩ := hI.blk b _ hg
 rw [hb] at h1; cases h1
 obtain ⟨c, hm, rfl⟩ := h5
 obtain ⟨c', o, h1, _, _, h6, h7⟩ := hI.blk m _ hgm
 rw [hm] at h1; cases h1
 obtain ⟨fs, rfl, hes⟩ := h7
 have hget : (getObj r).run P k.w = .ok (.mapIter (some c) since seen.toArray stepped) k.w := by simp [getObj, Sem.run, h4]
 have hgetm : (getObj c).run P k.w = .ok (.map fs.toArray clock) k.w := by simp [getObj, Sem.run, h6]
 have hback : seen.toArray.back? = some stamp := by rw [List.back?_toArray]; exact hst
 have hfind := Rb hes (fun n => n == stamp)
 rw [hf] at hfind
 cases hq : fs.find? (fun f => f.born == stamp) with
 | none => rw [hq] at hfind; exact hfind.elim
 | some f =>
  rw [hq] at hfind
  obtain ⟨e1, e3⟩ := hfind
  have hne : ¬ ((clock != stepped) = true) := by simp [hcl]
  have hq2 : fs.toArray.find? (fun f => f.born == stamp) = some f := by rw [List.find?_toArray]; exact hq
  refine ⟨.tuple #[f.key, f.val], ?_, ?_⟩
  ·simp only [Instr.entry, Sem.run_bind, hget, hgetm, hback, Result.andThen_ok, if_neg hne, hq2, Sem.run_pure]
  ·have hk : Rel k ka f.key := by rw [e1]; exact G8 hka
   have := RelL.cons hk (RelL.cons e3 (RelL.nil _))
   exact .tup this.1 this.2
end
end Go.DM
namespace Go.DM
open Go Go.RowKit

section
variable {C : Cfg} {P : Program} {w0 : World} {σ σ' : St} {k : K} {r : R}

theorem Mt {f : FuncId} {fn : Func} (hf : P.funcs[f]? = some fn) (hn : fn.name ≠ "runtime.NumGoroutine") (hb : fn.body.isSome = true) (args : Array Value) (w : World) :
  (callFunc f args).run P w = .ok (.enter f args) w := by
 obtain ⟨c, hc⟩ := Option.isSome_iff_exists.1 hb
 simp [callFunc, hf, hn, hc]

theorem Po {fn : Func} {n : String} (hn : fn.name = n) (ho : fn.origin = "") (h1 : Extern.allNextRows.lookup n = none) (h2 : Extern.allNextRows.lookup "" = none) : Extern.findNext fn = none := by
 simp [Extern.findNext, hn, ho, h1, h2]
theorem Rc {fn : Func} {n : String} {e : Array Value → Sem Value} (hn : fn.name = n) (h1 : Extern.allGenericRows.lookup n = none) (h2 : Extern.allTypedRows.lookup n = none) (h3 : Extern.allRows.lookup n = some e) : Extern.find fn = some e := by
 simp [Extern.find, hn, h1, h2, h3]
theorem Rd {fn : Func} {n : String} {e : Array TypeId → Array TypeId → Array Value → Sem Value} (hn : fn.name = n) (h1 : Extern.allGenericRows.lookup n = none) (h2 : Extern.allTypedRows.lookup n = some e) : Extern.find fn = some (e fn.params fn.resultTypes) := by
 simp [Extern.find, hn, h1, h2]

theorem Oc {f : FuncId} {fn : Func} (hf : P.funcs[f]? = some fn) (hn : fn.name ≠ "runtime.NumGoroutine") (hb : fn.body.isSome = false) (h1 : fn.name = "internal/abi.NoEscape") (h2 : fn.origin = "") (u : Value) (w : World) :
  (callFunc f #[u]).run P w = .ok (.value u) w := by
 have hb' : fn.body.isNone = true := by cases h : fn.body <;> simp_all
 rw [run_callFunc_extern hf (by simpa using hn) hb' (Po h1 h2 (by kernel_rfl) (by kernel_rfl)) (Rc (e := Extern.AbiNoEscape.same) h1 (by kernel_rfl) (by kernel_rfl) (by kernel_rfl))]
 rfl

theorem La {f : FuncId} {fn : Func} (hf : P.funcs[f]? = some fn) (hn : fn.name ≠ "runtime.NumGoroutine") (hb : fn.body.isSome = false) (h1 : fn.name = "internal/bytealg.MakeNoZero") (h2 : fn.origin = "")
  {t e : TypeId} (ht : fn.resultTypes.toList = [t]) (hu : P.underlying t = some (.slice e)) {n : Int} (h0 : 0 ≤ n) (hm : n ≤ 281474976710656) (w : World) :
  ∃ cs : Array Value, (callFunc f #[.int .i64 n]).run P w = .ok (.value (.slice (some ⟨w.heap.size, 0, none⟩) n.toNat cs.size)) (w.drew.drew.alloc (.cells cs e)) ∧ n.toNat ≤ cs.size := by
 have hb' : fn.body.isNone = true := by cases h : fn.body <;> simp_all
 obtain ⟨m, rfl⟩ : ∃ m : Nat, n = (m : Nat) := ⟨n.toNat, by omega⟩
 obtain ⟨cs, g1, g2, _⟩ := Lib.run_makeNoZero (P := P) w fn.params t e hu m (by omega)
 refine ⟨cs, ?_, g2⟩
 have hrt : fn.resultTypes = #[t] := by
  cases hr : fn.resultTypes with
  | mk l => rw [hr] at ht; simp at ht; rw [ht]
 rw [run_callFunc_extern hf (by simpa using hn) hb' (Po h1 h2 (by kernel_rfl) (by kernel_rfl)) (Rd (e := Extern.BytealgMakeNoZero.makeNoZero) h1 (by kernel_rfl) (by kernel_rfl))]
 rw [hrt, g1]
 rfl

theorem J8 {f : FuncId} {args : List A} {us : List Value} (hI : Inv w0 σ k) (hr : RelL k args us) (h : Jb C f args σ = some r) : Good C.P w0 k ((callFunc f us.toArray).run C.P k.w) r := by
 unfold Jb at h
 split at h
 case h_2 => cases h
 rename_i fn hf
 split at h
 case isTrue => cases h
 rename_i hn
 split at h
 ·rename_i hb
  cases h
  exact ⟨k, us.toArray, Mt hf hn hb _ _, by simpa using hr, hI, K.le.refl k⟩
 rename_i hb
 have hb : fn.body.isSome = false := by simpa using hb
 split at h
 ·rename_i hq
  split at h
  case h_2 => cases h
  rename_i x
  cases h
  obtain ⟨u, us', rfl, h1, h2⟩ := hr.inv_cons
  rw [h2.inv_nil]
  exact C3 (C := C) hI (Oc hf hn hb hq.1 hq.2 u k.w) h1
 split at h
 ·rename_i hq
  split at h
  case h_2 => cases h
  rename_i n t ht
  split at h
  case h_2 => cases h
  rename_i e hu
  split at h
  case isFalse => cases h
  rename_i hc
  cases h
  obtain ⟨u, us', rfl, h1, h2⟩ := hr.inv_cons
  obtain rfl := rel_v_inv h1
  rw [h2.inv_nil]
  obtain ⟨cs, g1, g2⟩ := La hf hn hb hq.1 hq.2 ht hu hc.1 hc.2.1 k.w
  obtain ⟨d1, d2⟩ := hI.drew
  obtain ⟨d3, d4⟩ := d1.drew
  obtain ⟨q1, q2⟩ := d3.layTok (us := cs) (e := e) (lo := 0) (hi := 0) (n := 0) (Nat.zero_le _) (.inl rfl)
  refine ⟨_, _, g1, ?_, q1, d2.trans (d4.trans q2)⟩
  refine .raw (by simp [K.layTok, K.wd]) g2 (fun _ => ⟨by simp [K.layTok, K.wd], cs, e, (0, 0), ?_, rfl⟩) ⟨0, by simp [K.layTok, K.wd]⟩
  exact Ag _ _
 ·cases h

theorem Dh {ρ : Operand → Option A} {ρ' : Operand → Value} (hρ : ∀ x a, ρ x = some a → Rel k a (ρ' x)) : ∀ {l : List Operand} {as : List A}, C2 ρ l = some as → RelL k as (l.map ρ')
 | [], as, h => by simp only [C2] at h; cases h; exact RelL.nil k
 | x :: l, as, h => by
  simp only [C2] at h
  split at h
  case h_2 => cases h
  rename_i a ha
  split at h
  case h_2 => cases h
  rename_i l' hl
  cases h
  exact RelL.cons (hρ x a ha) (Dh hρ hl)
theorem F2 {ρ : Operand → Option A} {ρ' : Operand → Value} (hρ : ∀ x a, ρ x = some a → Rel k a (ρ' x)) : ∀ {l : List (Nat × Operand)} {as : List (Nat × A)}, Cv ρ l = some as → PartsRel k as (l.map fun (i, x) => (i, ρ' x)) ∧ ∀ x ∈ as, x.2 ≠ .junk
 | [], as, h => by simp only [Cv] at h; cases h; exact ⟨⟨rfl, fun j x y h => by simp at h⟩, fun x h => by simp at h⟩
 | (i, x) :: l, as, h => by
  simp only [Cv] at h
  split at h
  case h_2 => cases h
  rename_i a ha
  split at h
  ·cases h
  rename_i hj
  split at h
  case h_2 => cases h
  rename_i l' hl
  cases h
  obtain ⟨h1, h2⟩ := F2 hρ hl
  refine ⟨⟨by simpa using h1.1, fun j x' y' hx hy => ?_⟩, fun x' hx => ?_⟩
  ·cases j with
   | zero => simp at hx hy; subst hx; subst hy; exact ⟨rfl, hρ x a ha⟩
   | succ j => exact h1.2 j x' y' (by simpa using hx) (by simpa using hy)
  ·rcases List.mem_cons.1 hx with rfl | hx
   ·rintro rfl; simp [Nt] at hj
   ·exact h2 _ hx
theorem Lb {ρ : Operand → Option A} {ρ' : Operand → Value} (hρ : ∀ x a, ρ x = some a → Rel k a (ρ' x)) {x : Option Operand} {a : Option A} (h : E4 ρ x = some a) : Jf k a (x.map ρ') := by
 unfold E4 at h
 split at h
 ·cases h; trivial
 ·split at h
  ·rename_i y a' ha; cases h; exact hρ _ _ ha
  ·cases h

theorem Re {f : Fn} {first cap : List A} {u : Value} (h : Rel k (.fn f first cap) u) : ∃ us vs : List Value, u = .func f us.toArray vs.toArray ∧ RelL k first us ∧ RelL k cap vs := by
 cases h with
 | fn h1 h2 h3 h4 => exact ⟨_, _, rfl, ⟨h1, h3⟩, ⟨h2, h4⟩⟩
theorem Su {t : TypeId} {x : A} {u : Value} (h : Rel k (.ifc t x) u) : ∃ v, u = .iface t v ∧ Rel k x v := by
 cases h with
 | ifc h => exact ⟨_, rfl, h⟩
theorem W7 {vs : List A} {u : Value} (h : Rel k (.tup vs) u) : ∃ us : List Value, u = .tuple us.toArray ∧ RelL k vs us := by
 cases h with
 | tup h1 h2 => exact ⟨_, rfl, h1, h2⟩

theorem Mk {t : TypeId} {name : String} {f : FuncId} (h : Ky P t name = some f) (v : Value) (n : Nat) (w : World) : (method (n + 1) t v name).run P w = .ok (f, v) w := by
 unfold Ky at h
 split at h
 case h_2 => cases h
 rename_i i hi
 split at h
 case h_2 => cases h
 rename_i m hm
 split at h
 case isFalse => cases h
 rename_i hp
 have hp' : m.path.toList = [] := by simpa using hp
 have hti : (typeInfo t).run P w = .ok i w := Bu hi
 split at h
 ·rename_i g e hf hu
  cases h
  simp [method, hti, hm, hp', follow, hf, receiverAt, run_underlying hu, Place.get]
 ·cases h
 ·rename_i g d hnp hf hu
  cases h
  simp only [method, Sem.run_bind, hti, Result.andThen_ok, hm, hp', follow, Sem.run_pure, hf, receiverAt, run_underlying hu]
  cases d <;> first | exact (hnp _ rfl).elim | simp [Place.get]
 ·cases h
end
end Go.DM
namespace Go.DM
open Go Go.RowKit

section
variable {C : Cfg} {P : Program} {w0 : World} {σ σ' : St} {k : K} {r : R} {ρ : Operand → Option A} {ρ' : Operand → Value} {o : Oper}

theorem Pp {s : Sem Value} {u : Value} {w w' : World} (h : s.run P w = .ok u w') : (do pure (Next.value (← s)) : Sem Next).run P w = .ok (.value u) w' := by simp [h]
theorem U2 {s : Sem Unit} {w w' : World} (h : s.run P w = .ok () w') : (do s; pure Next.skip : Sem Next).run P w = .ok .skip w' := by simp [h]
theorem Bw (hI : Inv w0 σ k) {s : Sem Value} {a : A} (h : ∃ v, s.run C.P k.w = .ok v k.w ∧ Rel k a v) : Good C.P w0 k ((do pure (Next.value (← s)) : Sem Next).run C.P k.w) (.val a σ) := by
 obtain ⟨v, h1, h2⟩ := h
 exact ⟨k, v, Pp h1, h2, hI, K.le.refl k⟩
theorem Bs {s : Sem Value} {a : A} (h : ∃ k' v, s.run C.P k.w = .ok v k'.w ∧ Rel k' a v ∧ Inv w0 σ' k' ∧ k.le k') : Good C.P w0 k ((do pure (Next.value (← s)) : Sem Next).run C.P k.w) (.val a σ') := by
 obtain ⟨k', v, h1, h2, h3, h4⟩ := h
 exact ⟨k', v, Pp h1, h2, h3, h4⟩
theorem Good.un {s : Sem Unit} (h : ∃ k', s.run C.P k.w = .ok () k'.w ∧ Inv w0 σ' k' ∧ k.le k') : Good C.P w0 k ((do s; pure Next.skip : Sem Next).run C.P k.w) (.skip σ') := by
 obtain ⟨k', h1, h3, h4⟩ := h
 exact ⟨k', U2 h1, h3, h4⟩

theorem U3 {l : Array Operand} {x : Operand} (h : l.toList = [x]) : l.map ρ' = #[ρ' x] := by
 cases l with | mk l => simp at h; subst h; simp
theorem Mu {l : Array Operand} {x y : Operand} (h : l.toList = [x, y]) : l.map ρ' = #[ρ' x, ρ' y] := by
 cases l with | mk l => simp at h; subst h; simp
theorem Ad1 {l : Array Operand} (h : l.toList = []) : l.map ρ' = #[] := by
 cases l with | mk l => simp at h; subst h; simp

theorem Ha (l : Array Operand) : l.map ρ' = (l.toList.map ρ').toArray := by
 cases l with | mk l => simp
theorem A2 {c : Call} {b : Builtin} (hop : o.op = .call c) (hc : c.callee = .builtin b) : execOp ρ' o = builtin b c.argTypes o.type (c.args.map fun | .const _ => true | _ => false) (c.args.map ρ') := by
 simp only [execOp, hop, resolve, hc]
 rfl
theorem Rf {c : Call} {f : Operand} {g : FuncId} {us vs : Array Value} (hop : o.op = .call c) (hc : c.callee = .value f) (hf : ρ' f = .func (.func g) us vs) : execOp ρ' o = callFunc g (us ++ c.args.map ρ' ++ vs) := by
 simp only [execOp, hop, resolve, hc, hf]
 rfl

theorem Lc {c : Call} {x : Operand} {name : String} {u : Value} (hop : o.op = .call c) (hc : c.callee = .invoke x name) (hx : ρ' x = u) : execOp ρ' o = callMethod u name (c.args.map ρ') := by
 have h1 : execOp ρ' o = invoke (.fn (.method name) #[]) (#[ρ' x] ++ c.args.map ρ') := by
  simp only [execOp, hop, resolve, hc]; rfl
 have h0 : (#[ρ' x] ++ c.args.map ρ')[0]? = some u := by rw [hx, Ha]; simp
 have h2 : (#[ρ' x] ++ c.args.map ρ').extract 1 (#[ρ' x] ++ c.args.map ρ').size = c.args.map ρ' := by
  rw [Ha]
  simp
  rw [List.take_of_length_le (by simp)]
 rw [h1]
 simp only [invoke, h0, h2]
theorem Ld (hI : Inv w0 σ k) (hρ : ∀ x a, ρ x = some a → Rel k a (ρ' x)) {c : Call} {b : Builtin} (hop : o.op = .call c) (hc : c.callee = .builtin b) (h : Bd C ρ b c o σ = some r) :
  Good C.P w0 k ((execOp ρ' o).run C.P k.w) r := by
 have hdet : Ao C ρ o σ = some r → Good C.P w0 k ((execOp ρ' o).run C.P k.w) r := fun h => K3 (C := C) hI hρ (fun cs b h => by rw [hop] at h; cases h) h
 unfold Bd at h
 split at h
 ·rename_i s x ha
  split at h
  case h_2 => cases h
  rename_i s' x' t t' h1 h2 h3 h4
  split at h
  ·rename_i kd hu
   obtain ⟨a, σ', h5, rfl⟩ := B4 h
   rw [A2 hop hc, Mu ha]
   exact Bs (C := C) (N4 hI h3 h4 hu (hρ _ _ h1) (hρ _ _ h2) h5)
  ·rename_i d hne hu
   obtain ⟨a, σ', h5, rfl⟩ := B4 h
   rw [A2 hop hc, Mu ha]
   split at h5
   ·exact Bs (C := C) (N3 hI h3 h4 hu (fun kd e => hne kd e) (hρ _ _ h1) (hρ _ _ h2) h5)
   ·exact Bs (C := C) (Ho hI h3 h4 hu (fun kd e => hne kd e) (hρ _ _ h1) (hρ _ _ h2) h5)
  ·cases h
 ·rename_i d s ha
  split at h
  case h_2 => cases h
  rename_i d' s' t h1 h2 h3
  obtain ⟨a, σ', h5, rfl⟩ := B4 h
  rw [A2 hop hc, Mu ha]
  exact Bs (C := C) (Pg hI h3 (hρ _ _ h1) (hρ _ _ h2) h5)
 ·rename_i x ha
  split at h
  case h_2 => cases h
  rename_i x' t h1 h3
  split at h
  ·rename_i n hn
   cases h
   rw [A2 hop hc, U3 ha]
   exact Bw (C := C) hI ⟨_, T3 hI h3 (hρ _ _ h1) hn, D1⟩
  ·exact hdet h
 ·rename_i ha
  cases h
  rw [A2 hop hc, Ad1 ha]
  exact ⟨k, rfl, hI, K.le.refl k⟩
 ·rename_i m kx ha
  split at h
  case h_2 => cases h
  rename_i m' k' t h1 h2 h3
  split at h
  case h_2 => cases h
  rename_i σ' h5
  cases h
  rw [A2 hop hc, Mu ha]
  obtain ⟨k2, g1, g2, g3⟩ := Mj (ty := o.type) hI h3 (hρ _ _ h1) (hρ _ _ h2) h5
  exact Bs (C := C) ⟨k2, _, g1, Er, g2, g3⟩
 ·rename_i x ha
  split at h
  case h_2 => cases h
  rename_i x' h1
  split at h
  ·rename_i a h2
   cases h
   rw [A2 hop hc, U3 ha]
   exact Bw (C := C) hI (Jj (hρ _ _ h1) h2)
  ·exact hdet h
 ·rename_i x n ha
  split at h
  case h_2 => cases h
  rename_i x' n' t h1 h2 h3
  split at h
  ·rename_i a h5
   cases h
   rw [A2 hop hc, Mu ha]
   exact Bs (C := C) (Hi hI h3 (hρ _ _ h1) (hρ _ _ h2) h5)
  ·exact hdet h
 all_goals first | cases h | exact hdet h

theorem Le (_hI : Inv w0 σ k) (hρ : ∀ x a, ρ x = some a → Rel k a (ρ' x)) {t : TypeId} {x y : Operand} {x' y' : A} {q : Bool} (hq : eqA C.P t x' y' = some q) (hx : ρ x = some x') (hy : ρ y = some y') :
  ((do eqGuard .eql t x y (ρ' x) (ρ' y); binOp .eql t (ρ' x) (ρ' y)) : Sem Value).run C.P k.w = .ok (.bool q) k.w ∧ ((do eqGuard .neq t x y (ρ' x) (ρ' y); binOp .neq t (ρ' x) (ρ' y)) : Sem Value).run C.P k.w = .ok (.bool !q) k.w := by
 obtain ⟨h1, h2, h3⟩ := U0 (hρ _ _ hx) (hρ _ _ hy) hq
 exact ⟨by simp [h1, h2], by simp [h1, h3]⟩

set_option maxHeartbeats 2000000 in
theorem Im (hI : Inv w0 σ k) (hρ : ∀ x a, ρ x = some a → Rel k a (ρ' x)) (h : op C ρ o σ = some r) : Good C.P w0 k ((execOp ρ' o).run C.P k.w) r := by
 have hdet : (∀ cs b, o.op ≠ .select cs b) → Ao C ρ o σ = some r → Good C.P w0 k ((execOp ρ' o).run C.P k.w) r := fun hs h => K3 (C := C) hI hρ hs h
 cases hop : o.op with
 | move x =>
  simp only [op, hop] at h
  obtain ⟨a, h1, rfl⟩ := Ay h
  simp only [execOp, hop]
  exact C3 (C := C) hI rfl (hρ _ _ h1)
 | assign x =>
  simp only [op, hop] at h
  obtain ⟨a, h1, rfl⟩ := Ay h
  simp only [execOp, hop]
  exact C3 (C := C) hI rfl (hρ _ _ h1)
 | pick c a b =>
  simp only [op, hop] at h
  split at h
  case h_2 => cases h
  rename_i t hc
  obtain ⟨x, h1, rfl⟩ := Ay h
  have hc' := rel_v_inv (hρ _ _ hc)
  simp only [execOp, hop, hc']
  cases t
  ·exact C3 (C := C) hI rfl (hρ _ _ h1)
  ·exact C3 (C := C) hI rfl (hρ _ _ h1)
 | alloc e =>
  simp only [op, hop] at h
  split at h
  case h_2 => cases h
  rename_i z hz
  cases h
  obtain ⟨i, zv, us, g1, g2, g3, g4⟩ := C4 (k := k) hz
  obtain ⟨k', q1, q2, q3, q4⟩ := Pe (P := C.P) hI e g4
  simp only [execOp, hop]
  refine Bs (C := C) ⟨k', _, ?_, q2, q3, q4⟩
  simp [Instr.alloc, Am g1 g2, newVar, g3, q1]
 | box e x =>
  simp only [op, hop] at h
  split at h
  case h_2 => cases h
  rename_i a ha
  split at h
  case isFalse => cases h
  rename_i ho
  cases h
  have hcs := (hρ _ _ ha).cells (Cj ho)
  obtain ⟨us, g1, g2⟩ : ∃ us : List Value, (ρ' x).cells = us.toArray ∧ RelL k a.cells us := ⟨_, by simp, hcs⟩
  obtain ⟨k', q1, q2, q3, q4⟩ := Pe (P := C.P) hI e g2
  simp only [execOp, hop]
  refine Bs (C := C) ⟨k', _, ?_, q2, q3, q4⟩
  simp [Instr.box, newVar, g1, q1]
 | build t parts =>
  simp only [op, hop] at h
  split at h
  case h_2 => cases h
  rename_i l hl
  obtain ⟨a, h1, rfl⟩ := Ay h
  obtain ⟨g1, g2⟩ := F2 hρ hl
  simp only [execOp, hop]
  exact Bw (C := C) hI (N5 (by simpa using g1) g2 h1)
 | buildSlice t len parts =>
  simp only [op, hop] at h
  split at h
  case h_2 => cases h
  rename_i l hl
  obtain ⟨g1, g2⟩ := F2 hρ hl
  simp only [execOp, hop]
  split at h
  ·obtain ⟨a, σ', h1, rfl⟩ := B4 h
   exact Bs (C := C) (Jg hI (by simpa using g1) g2 h1)
  ·obtain ⟨a, h1, rfl⟩ := Ay h
   exact Bs (C := C) (Et hI (by simpa using g1) g2 h1)
 | load t a =>
  simp only [op, hop] at h
  split at h
  case h_2 => cases h
  rename_i x hx
  obtain ⟨a, h1, rfl⟩ := Ay h
  simp only [execOp, hop]
  exact Bw (C := C) hI (J6 hI (hρ _ _ hx) h1)
 | store t a x =>
  simp only [op, hop] at h
  split at h
  case h_2 => cases h
  rename_i a' x' ha hx
  obtain ⟨s, h1, rfl⟩ := Fx h
  simp only [execOp, hop]
  exact Good.un (C := C) (N0 hI (hρ _ _ ha) (hρ _ _ hx) h1)
 | nilCheck x =>
  simp only [op, hop] at h
  split at h
  ·cases h
  ·rename_i f u c hx
   cases h
   obtain ⟨us, vs, g1, g2, g3⟩ := Re (hρ _ _ hx)
   simp only [execOp, hop, g1]
   exact C3 (C := C) hI rfl (by rw [← g1]; exact hρ _ _ hx)
  ·cases h
  ·cases h
  ·rename_i a hnv hnf1 hnf2 hnj hx
   cases h
   have hr := hρ _ _ hx
   have key : execOp ρ' o = pure (.value (ρ' x)) := by
    simp only [execOp, hop]
    generalize ρ' x = u at hr ⊢
    cases hr <;> first | rfl | (exact (hnv _ rfl).elim) | (exact (hnf2 _ _ _ rfl).elim) | (exact (hnj rfl).elim)
   rw [key]
   exact C3 (C := C) hI rfl hr
  ·cases h
 | binOp b t x y z =>
  simp only [op, hop] at h
  split at h
  ·rename_i x' y' hx hy
   split at h
   ·rename_i q hq
    cases h
    simp only [execOp, hop]
    exact Bw (C := C) hI ⟨_, (Le hI hρ hq hx hy).1, Ct⟩
   ·exact hdet (by simp [hop]) h
  ·rename_i x' y' hx hy
   split at h
   ·rename_i q hq
    cases h
    simp only [execOp, hop]
    exact Bw (C := C) hI ⟨_, (Le hI hρ hq hx hy).2, Ct⟩
   ·exact hdet (by simp [hop]) h
  ·exact hdet (by simp [hop]) h
 | unOp u t x =>
  simp only [op, hop] at h
  exact hdet (by simp [hop]) h
 | convert s d x =>
  simp only [op, hop] at h
  split at h
  case h_2 => cases h
  rename_i x' hx
  split at h
  ·rename_i a σ' h1
   cases h
   simp only [execOp, hop]
   exact Bs (C := C) (K7 hI (hρ _ _ hx) h1)
  ·exact hdet (by simp [hop]) h
 | makeInterface t x =>
  simp only [op, hop] at h
  split at h
  ·cases h
  ·rename_i a d hni hx hu
   cases h
   simp only [execOp, hop]
   refine Bw (C := C) hI ⟨.iface t (ρ' x), ?_, .ifc (hρ _ _ hx)⟩
   simp only [Instr.makeInterface, Sem.run_bind, run_underlying hu, Result.andThen_ok]
   cases d <;> first | rfl | exact (hni _ _ hx hu).elim
  ·cases h
 | makeFunc f first cap =>
  simp only [op, hop] at h
  split at h
  case h_2 => cases h
  rename_i l c hl hc
  cases h
  obtain ⟨g1, g2⟩ := Dh hρ hl
  obtain ⟨g3, g4⟩ := Dh hρ hc
  simp only [execOp, hop]
  refine Bw (C := C) hI ⟨.func f (first.toList.map ρ').toArray (cap.toList.map ρ').toArray, ?_, .fn g1 g3 g2 g4⟩
  rw [Ha, Ha]; rfl
 | makeSlice t l c =>
  simp only [op, hop] at h
  split at h
  case h_2 => cases h
  rename_i l' c' hl hc
  obtain ⟨a, σ', h1, rfl⟩ := B4 h
  simp only [execOp, hop]
  exact Bs (C := C) (Jh hI (hρ _ _ hl) (hρ _ _ hc) h1)
 | slice t x lo hi mx =>
  cases mx with
  | some m => simp only [op, hop] at h; cases h
  | none =>
  simp only [op, hop] at h
  split at h
  case h_2 => cases h
  rename_i x' l h' hx hl hh
  split at h
  ·rename_i a σ' h1
   cases h
   simp only [execOp, hop]
   exact Bs (C := C) (N1 hI (hρ _ _ hx) (Lb hρ hl) (Lb hρ hh) h1)
  ·exact hdet (by simp [hop]) h
 | fieldAddr s x f =>
  simp only [op, hop] at h
  split at h
  case h_2 => cases h
  rename_i a hx
  obtain ⟨a, h1, rfl⟩ := Ay h
  simp only [execOp, hop]
  exact Bw (C := C) hI (Nz (hρ _ _ hx) h1)
 | field t x f =>
  simp only [op, hop] at h
  split at h
  case h_2 => cases h
  rename_i a hx
  obtain ⟨a, h1, rfl⟩ := Ay h
  simp only [execOp, hop]
  exact Bw (C := C) hI (Mf (hρ _ _ hx) h1)
 | indexAddr t x i =>
  simp only [op, hop] at h
  split at h
  case h_2 => cases h
  rename_i a i' hx hi
  obtain ⟨a, h1, rfl⟩ := Ay h
  simp only [execOp, hop]
  exact Bw (C := C) hI (Je (hρ _ _ hx) (hρ _ _ hi) h1)
 | index t x i =>
  simp only [op, hop] at h
  split at h
  case h_2 => cases h
  rename_i a i' hx hi
  split at h
  ·rename_i r' h1
   cases h
   simp only [execOp, hop]
   exact Bw (C := C) hI (Mg (hρ _ _ hx) (hρ _ _ hi) h1)
  ·exact hdet (by simp [hop]) h
 | typeAssert x xt t ok =>
  simp only [op, hop] at h
  split at h
  case h_2 => cases h
  rename_i a hx
  obtain ⟨a, h1, rfl⟩ := Ay h
  simp only [execOp, hop]
  exact Bw (C := C) hI (Ik (hρ _ _ hx) h1)
 | extract x i =>
  simp only [op, hop] at h
  split at h
  case h_2 => cases h
  rename_i vs hx
  obtain ⟨a, h1, rfl⟩ := Ay h
  obtain ⟨us, g1, g2⟩ := W7 (hρ _ _ hx)
  obtain ⟨u, g3, g4⟩ := g2.get h1
  simp only [execOp, hop, g1]
  refine Bw (C := C) hI ⟨u, ?_, g4⟩
  simp [Instr.extract, g3]
 | call c =>
  simp only [op, hop] at h
  split at h
  ·rename_i f hc
   split at h
   case h_2 => cases h
   rename_i g first cap as hf has
   split at h
   ·rename_i r' h1
    cases h
    obtain ⟨us, vs, g1, g2, g3⟩ := Re (hρ _ _ hf)
    have g4 := Dh hρ has
    rw [Rf hop hc g1, Ha]
    have := J8 (C := C) hI ((g2.append g4).append g3) h1
    simpa using this
   ·exact hdet (by simp [hop]) h
  ·rename_i b hc
   exact Ld hI hρ hop hc h
  ·rename_i x name hc
   split at h
   case h_2 => cases h
   rename_i t y as hx has
   split at h
   case h_2 => cases h
   rename_i f hm
   obtain ⟨v, g1, g2⟩ := Su (hρ _ _ hx)
   have g4 := Dh hρ has
   have h5 := J8 (C := C) hI (RelL.cons g2 g4) h
   have hmd : (method (C.P.types.size + Made.depth) t v name).run C.P k.w = .ok (f, v) k.w := Mk hm v (C.P.types.size + (Made.depth - 1)) k.w
   have e : (execOp ρ' o).run C.P k.w = (callFunc f ((v :: c.args.toList.map ρ').toArray)).run C.P k.w := by
    rw [Lc hop hc g1]
    simp only [callMethod, Sem.run_bind, run_program, Result.andThen_ok, hmd]
    rw [Ha]
    simp
   rw [e]; exact h5
 | defer c =>
  simp only [op, hop] at h
  split at h
  ·rename_i f hc
   split at h
   case h_2 => cases h
   rename_i g first cap as hf has
   cases h
   obtain ⟨us, vs, g1, g2, g3⟩ := Re (hρ _ _ hf)
   have g4 := Dh hρ has
   refine ⟨k, { target := .fn (.func g) vs.toArray, args := us.toArray ++ c.args.map ρ' }, ?_, ⟨us ++ c.args.toList.map ρ', vs, rfl, by simp, (g2.append g4).append g3⟩, hI, K.le.refl k⟩
   simp [execOp, hop, resolve, hc, g1, Deferred.ofValue]
  ·cases h
 | makeMap t r' =>
  cases r' with
  | some x => simp only [op, hop] at h; cases h
  | none =>
  simp only [op, hop] at h
  cases h
  obtain ⟨q1, q2, q3⟩ := hI.push (x := .map [] 0) (o := .map #[] 0) ⟨[], rfl, rfl, fun j e f h => by simp at h⟩
  simp only [execOp, hop]
  refine Bs (C := C) ⟨_, .map (some k.w.heap.size), ?_, .mp q3, q1, q2⟩
  simp [Instr.makeMap]
  rfl
 | lookup t m kx ok =>
  simp only [op, hop] at h
  split at h
  case h_2 => cases h
  rename_i m' k' hm hk
  obtain ⟨a, h1, rfl⟩ := Ay h
  simp only [execOp, hop]
  exact Bw (C := C) hI (Mi hI (hρ _ _ hm) (hρ _ _ hk) h1)
 | mapUpdate t m kx x =>
  simp only [op, hop] at h
  split at h
  case h_2 => cases h
  rename_i m' k' x' hm hk hx
  obtain ⟨s, h1, rfl⟩ := Fx h
  simp only [execOp, hop]
  exact Good.un (C := C) (Hq hI (hρ _ _ hm) (hρ _ _ hk) (hρ _ _ hx) h1)
 | insert t m kx x =>
  simp only [op, hop] at h
  split at h
  case h_2 => cases h
  rename_i m' k' x' hm hk hx
  obtain ⟨s, h1, rfl⟩ := Fx h
  simp only [execOp, hop]
  exact Good.un (C := C) (Hq hI (hρ _ _ hm) (hρ _ _ hk) (hρ _ _ hx) h1)
 | mapEntry t m kx =>
  simp only [op, hop] at h
  split at h
  case h_2 => cases h
  rename_i m' k' hm hk
  obtain ⟨a, s, h1, rfl⟩ := B4 h
  simp only [execOp, hop]
  exact Bs (C := C) (N8 hI (hρ _ _ hm) (hρ _ _ hk) h1)
 | entryStore t m s x =>
  simp only [op, hop] at h
  split at h
  case h_2 => cases h
  rename_i m' s' x' hm hs hx
  obtain ⟨σ', h1, rfl⟩ := Fx h
  simp only [execOp, hop]
  exact Good.un (C := C) (Il hI (hρ _ _ hm) (hρ _ _ hs) (hρ _ _ hx) h1)
 | range t x =>
  simp only [op, hop] at h
  split at h
  case h_2 => cases h
  rename_i x' hx
  obtain ⟨a, σ', h1, rfl⟩ := B4 h
  simp only [execOp, hop]
  exact Bs (C := C) (N9 hI (hρ _ _ hx) h1)
 | next x isS =>
  simp only [op, hop] at h
  split at h
  case h_2 => cases h
  rename_i x' hx
  obtain ⟨a, σ', h1, rfl⟩ := B4 h
  simp only [execOp, hop]
  exact Bs (C := C) (Pn hI (hρ _ _ hx) h1)
 | entry x =>
  simp only [op, hop] at h
  split at h
  case h_2 => cases h
  rename_i x' hx
  obtain ⟨a, h1, rfl⟩ := Ay h
  simp only [execOp, hop]
  exact Bw (C := C) hI (K9 hI (hρ _ _ hx) h1)
 | panic x =>
  simp only [op, hop] at h
  split at h
  case h_2 => cases h
  rename_i t a hx
  cases h
  obtain ⟨v, g1, g2⟩ := Su (hρ _ _ hx)
  refine ⟨k, .iface t v, ?_, .ifc g2, hI, K.le.refl k⟩
  simp [execOp, hop, g1, Instr.panic, goPanic]
 | _ => simp only [op, hop] at h; cases h
end
end Go.DM
namespace Go.DM
open Go Go.RowKit

def GlobOk (C : Cfg) (k : K) : Prop := ∀ g a, C.glob g = some a → Rel k a (.pointer (some ⟨g, 0, none⟩))
theorem GlobOk.mono0 {C : Cfg} {k k' : K} (h : k.le0 k') (hg : GlobOk C k) : GlobOk C k' := fun g a e => (hg g a e).mono0 h

theorem GlobOk.mono {C : Cfg} {k k' : K} (h : k.le k') (hg : GlobOk C k) : GlobOk C k' := GlobOk.mono0 h.toLe0 hg
def DsRel (k : K) (xs : List (FuncId × List A)) (ds : List Deferred) : Prop := xs.length = ds.length ∧ ∀ (j : Nat) (x : FuncId × List A) (d : Deferred), xs[j]? = some x → ds[j]? = some d → DefRel k x d
theorem DsRel.mono0 {k k' : K} (h : k.le0 k') {xs : List (FuncId × List A)} {ds : List Deferred} (hr : DsRel k xs ds) : DsRel k' xs ds := ⟨hr.1, fun j x d a b => (hr.2 j x d a b).mono0 h⟩
theorem DsRel.mono {k k' : K} (h : k.le k') {xs : List (FuncId × List A)} {ds : List Deferred} (hr : DsRel k xs ds) : DsRel k' xs ds := DsRel.mono0 h.toLe0 hr
theorem DsRel.cons {k : K} {x : FuncId × List A} {d : Deferred} {xs : List (FuncId × List A)} {ds : List Deferred} (h : DefRel k x d) (hr : DsRel k xs ds) : DsRel k (x :: xs) (d :: ds) :=
 ⟨by simp [hr.1], fun j y e hy he => by
  cases j with
  | zero => simp at hy he; subst hy; subst he; exact h
  | succ j => exact hr.2 j y e (by simpa using hy) (by simpa using he)⟩
theorem DsRel.inv_cons {k : K} {x : FuncId × List A} {xs : List (FuncId × List A)} {ds : List Deferred} (hr : DsRel k (x :: xs) ds) : ∃ d ds', ds = d :: ds' ∧ DefRel k x d ∧ DsRel k xs ds' := by
 match ds, hr with
 | d :: ds', hr => exact ⟨d, ds', rfl, hr.2 0 x d rfl rfl, by simpa using hr.1, fun j y e hy he => hr.2 (j + 1) y e (by simpa using hy) (by simpa using he)⟩
theorem DsRel.inv_nil {k : K} {ds : List Deferred} (hr : DsRel k [] ds) : ds = [] := List.eq_nil_of_length_eq_zero (by simpa using hr.1.symm)

structure FrRel (k : K) (n : Nat) (φ : Fr) (a : Act) : Prop where
 size : a.tmps.size = n
 slot : ∀ t, Rel k (φ.at t) (a.tmps.getD t undef)
 ds : DsRel k φ.ds a.defers

theorem FrRel.mono0 {k k' : K} (h : k.le0 k') {n : Nat} {φ : Fr} {a : Act} (hr : FrRel k n φ a) : FrRel k' n φ a :=
 ⟨hr.size, fun t => (hr.slot t).mono0 h, hr.ds.mono0 h⟩

theorem FrRel.mono {k k' : K} (h : k.le k') {n : Nat} {φ : Fr} {a : Act} (hr : FrRel k n φ a) : FrRel k' n φ a := FrRel.mono0 h.toLe0 hr
theorem U4 (φ : Fr) (t u : Nat) (x : A) : (φ.set t x).at u = if u = t then x else φ.at u := by
 simp only [Fr.set, Fr.at, Tr.get_set]
 split <;> rfl
theorem Lf (us : Array Value) (t u : Nat) (v : Value) (h : t < us.size) : (us.setIfInBounds t v).getD u undef = if u = t then v else us.getD u undef := by
 simp only [Array.getD_eq_getD_getElem?, Array.getElem?_setIfInBounds]
 by_cases hu : t = u
 ·subst hu; simp [h]
 ·have : ¬ u = t := fun e => hu e.symm
  simp [hu, this]

theorem FrRel.put {k : K} {n : Nat} {φ φ' : Fr} {a : Act} (hr : FrRel k n φ a) {d : Option Tmp} {x : A} {v : Value} (hx : Rel k x v) (h : Bb n φ d x = some φ') : FrRel k n φ' (a.put d v) := by
 unfold Bb at h
 split at h
 ·cases h; exact hr
 ·rename_i t
  split at h
  ·rename_i ht
   cases h
   refine ⟨by simp [Act.put, hr.size], fun u => ?_, hr.ds⟩
   rw [U4]
   simp only [Act.put]
   rw [Lf _ _ _ _ (by rw [hr.size]; exact ht)]
   split
   ·exact hx
   ·exact hr.slot u
  ·cases h
theorem put_defers (a : Act) (d : Option Tmp) (v : Value) : (a.put d v).defers = a.defers := by
 unfold Act.put; split <;> rfl

theorem Hr {φ : Fr} {t : Nat} {x : A} (h : φ.s.get t = some x) : φ.at t = x := by simp [Fr.at, h]
theorem D3 {C : Cfg} {k : K} {n : Nat} {φ : Fr} {a : Act} (hg : GlobOk C k) (hr : FrRel k n φ a) : ∀ x y, ev C φ x = some y → Rel k y (a.eval x) := by
 intro x y h
 unfold ev at h
 split at h
 ·rename_i t; rw [← Hr h]; exact hr.slot t
 ·exact G8 h
 ·exact hg _ _ h
 ·cases h
  exact .fn (us := []) (vs := []) rfl rfl (fun j a u h => by simp at h) (fun j a u h => by simp at h)

theorem B3 {k : K} {n : Nat} {φ : Fr} {a : Act} (hr : FrRel k n φ a) {ops : Array Oper} {o : Oper} {b : Bool} (h : Ae ops φ o = some b) : Region.wanted o (yielded ops a.tmps) = b := by
 unfold Ae at h
 unfold Region.wanted
 split at h
 ·rename_i hg; cases h; rw [hg]
 ·rename_i j want hg
  rw [hg]
  split at h
  ·rename_i y hy
   cases h
   suffices yielded ops a.tmps j = y by simp only [this]
   unfold C8 at hy
   unfold yielded
   split at hy
   ·rename_i d hd
    rw [hd]
    simp only [Option.bind_some]
    have hs := hr.slot d
    rw [Array.getD_eq_getD_getElem?] at hs
    split at hy
    ·rename_i c hc
     cases hy
     rw [Hr hc] at hs
     have := rel_v_inv hs
     cases ht : a.tmps[d]? with
     | none => rw [ht] at this; simp [undef] at this
     | some v => rw [ht] at this; simp at this; subst this; rfl
    ·cases hy
    ·rename_i q hnb hnj hq
     cases hy
     rw [Hr hq] at hs
     cases ht : a.tmps[d]? with
     | none => rfl
     | some v =>
      rw [ht] at hs
      simp only [Option.getD_some] at hs
      cases v with
      | bool c =>
       exfalso
       cases hs with
       | v _ => exact hnb _ rfl
       | junk => exact hnj rfl
      | _ => rfl
    ·cases hy
   ·rename_i hd
    cases hy
    rw [hd]; rfl
  ·cases h

def OutPost (w0 : World) (k : K) (out : Out) (σ : St) (e : Ending) (w : World) : Prop :=
 match out with
 | .ret x => ∃ k' v, e = .returned v ∧ k'.w = w ∧ k.le k' ∧ Inv w0 σ k' ∧ Rel k' x v
 | .pan x => ∃ k' v, e = .panicked [{ v, recovered := false }] ∧ k'.w = w ∧ k.le k' ∧ Inv w0 σ k' ∧ Rel k' x v
def Bi (C : Cfg) (w0 : World) (callF : CallF) : Prop := ∀ (f : FuncId) (args : List A) (σ : St) (out : Out) (σ' : St) (k : K) (us : List Value), callF f args σ = some (out, σ') → Inv w0 σ k → GlobOk C k → RelL k args us →
 Calls C.P f us.toArray k.w (OutPost w0 k out σ')

def W8 (w0 : World) (k : K) (n : Nat) (φ : Fr) (σ : St) (a : Act) (w : World) : Prop := ∃ k', k'.w = w ∧ k.le k' ∧ Inv w0 σ k' ∧ FrRel k' n φ a
def Ends (w0 : World) (k : K) (n : Nat) (r : X × Fr × St) (e : Exit) (a : Act) (w : World) : Prop :=
 match r with
 | (.normal, φ, σ) => e = .normal ∧ W8 w0 k n φ σ a w
 | (.exit id, φ, σ) => e = .exit id ∧ W8 w0 k n φ σ a w
 | (.ret, φ, σ) => e = .ret ∧ W8 w0 k n φ σ a w
 | (.pan x, φ, σ) => ∃ v k', e = .panic [{ v, recovered := false }] ∧ k'.w = w ∧ k.le k' ∧ Inv w0 σ k' ∧ FrRel k' n φ a ∧ Rel k' x v

theorem Ends.mono {w0 : World} {k k' : K} (h : k.le k') {n : Nat} {r : X × Fr × St} {e : Exit} {a : Act} {w : World} (hr : Ends w0 k' n r e a w) : Ends w0 k n r e a w := by
 obtain ⟨x, φ, σ⟩ := r
 cases x with
 | pan x => obtain ⟨v, k2, h1, h2, h3, h4⟩ := hr; exact ⟨v, k2, h1, h2, h.trans h3, h4⟩
 | _ => obtain ⟨h1, k2, h2, h3, h4⟩ := hr; exact ⟨h1, k2, h2, h.trans h3, h4⟩

section
variable {C : Cfg} {w0 : World} {callF : CallF} {n : Nat}

theorem Fa (a : Act) (d : Option Tmp) (v : Value) : ∀ t, d ≠ some t → (a.put d v).tmps.getD t undef = a.tmps.getD t undef := by
 intro t ht
 cases d with
 | none => rfl
 | some u =>
  have : u ≠ t := fun e => ht (by rw [e])
  simp [Act.put, Array.getD_eq_getD_getElem?, this]
theorem Di (hc : Bi C w0 callF) {σ : St} {k : K} {φ : Fr} {a : Act} (hI : Inv w0 σ k) (hg : GlobOk C k) (hr : FrRel k n φ a) {o : Oper} {r : R} (h : op C (ev C φ) o σ = some r) {K' : Act → World → Prop} {Q : Exit → Act → World → Prop}
  (hK : match r with
   | .val x σ' => ∃ φ', Bb n φ o.dst x = some φ' ∧ ∀ k' a', k.le k' → Inv w0 σ' k' → FrRel k' n φ' a' → (∀ t, o.dst ≠ some t → a'.tmps.getD t undef = a.tmps.getD t undef) → K' a' k'.w
   | .skip σ' => ∃ φ', Bb n φ o.dst und = some φ' ∧ ∀ k' a', k.le k' → Inv w0 σ' k' → FrRel k' n φ' a' → (∀ t, o.dst ≠ some t → a'.tmps.getD t undef = a.tmps.getD t undef) → K' a' k'.w
   | .call f args σ' => ∃ out σ'', callF f args σ' = some (out, σ'') ∧ match out with
    | .ret x => ∃ φ', Bb n φ o.dst x = some φ' ∧ ∀ k' a', k.le k' → Inv w0 σ'' k' → FrRel k' n φ' a' → (∀ t, o.dst ≠ some t → a'.tmps.getD t undef = a.tmps.getD t undef) → K' a' k'.w
    | .pan x => ∀ k' v, k.le k' → Inv w0 σ'' k' → FrRel k' n φ a → Rel k' x v → Q (.panic [{ v, recovered := false }]) a k'.w
   | .dfr f args σ' => ∃ φ', Bb n { φ with ds := (f, args) :: φ.ds } o.dst und = some φ' ∧ ∀ k' a', k.le k' → Inv w0 σ' k' → FrRel k' n φ' a' → (∀ t, o.dst ≠ some t → a'.tmps.getD t undef = a.tmps.getD t undef) → K' a' k'.w
   | .pan x σ' => ∀ k' v, k.le k' → Inv w0 σ' k' → FrRel k' n φ a → Rel k' x v → Q (.panic [{ v, recovered := false }]) a k'.w
   | .rcv _ => False) : o.wp C.P a k.w K' Q := by
 have hG := Im (ρ' := a.eval) hI (D3 hg hr) h
 unfold Oper.wp
 cases r with
 | val x σ' =>
  obtain ⟨k', v, h1, h2, h3, h4⟩ := hG
  obtain ⟨φ', h5, h6⟩ := hK
  rw [h1]
  exact h6 k' _ h4 h3 ((hr.mono h4).put h2 h5) (Fa _ _ _)
 | skip σ' =>
  obtain ⟨k', h1, h3, h4⟩ := hG
  obtain ⟨φ', h5, h6⟩ := hK
  rw [h1]
  exact h6 k' _ h4 h3 ((hr.mono h4).put Er h5) (Fa _ _ _)
 | call f args σ' =>
  obtain ⟨k', us, h1, h2, h3, h4⟩ := hG
  obtain ⟨out, σ'', h5, h6⟩ := hK
  rw [h1]
  have hcall := hc f args σ' out σ'' k' us.toList h5 h3 (hg.mono h4) h2
  show Calls C.P f us k'.w _
  refine Calls.mono (by simpa using hcall) (fun e w' he => ?_)
  cases out with
  | ret x =>
   obtain ⟨k2, v, rfl, rfl, g1, g2, g3⟩ := he
   obtain ⟨φ', q1, q2⟩ := h6
   exact q2 k2 _ (h4.trans g1) g2 ((hr.mono (h4.trans g1)).put g3 q1) (Fa _ _ _)
  | pan x =>
   obtain ⟨k2, v, rfl, rfl, g1, g2, g3⟩ := he
   exact h6 k2 v (h4.trans g1) g2 (hr.mono (h4.trans g1)) g3
 | dfr f args σ' =>
  obtain ⟨k', d, h1, h2, h3, h4⟩ := hG
  obtain ⟨φ', h5, h6⟩ := hK
  rw [h1]
  have hr' : FrRel k' n { φ with ds := (f, args) :: φ.ds } { a with defers := d :: a.defers } :=
   ⟨hr.size, (hr.mono h4).slot, DsRel.cons h2 (hr.mono h4).ds⟩
  exact h6 k' _ h4 h3 (hr'.put Er h5) (Fa _ _ _)
 | pan x σ' =>
  obtain ⟨k', v, h1, h2, h3, h4⟩ := hG
  rw [h1]
  exact hK k' v h4 h3 (hr.mono h4) h2
 | rcv σ' => exact hK.elim

theorem D9 (hc : Bi C w0 callF) {σ : St} {k : K} {φ : Fr} {a : Act} (hI : Inv w0 σ k) (hg : GlobOk C k) (hr : FrRel k n φ a) {o : Oper} {r : R} (h : op C (ev C φ) o σ = some r) {K' : Act → World → Prop} {Q : Exit → Act → World → Prop}
  (hK : match r with
   | .val x σ' => ∃ φ', Bb n φ o.dst x = some φ' ∧ ∀ k' a', k.le k' → Inv w0 σ' k' → FrRel k' n φ' a' → K' a' k'.w
   | .skip σ' => ∃ φ', Bb n φ o.dst und = some φ' ∧ ∀ k' a', k.le k' → Inv w0 σ' k' → FrRel k' n φ' a' → K' a' k'.w
   | .call f args σ' => ∃ out σ'', callF f args σ' = some (out, σ'') ∧ match out with
    | .ret x => ∃ φ', Bb n φ o.dst x = some φ' ∧ ∀ k' a', k.le k' → Inv w0 σ'' k' → FrRel k' n φ' a' → K' a' k'.w
    | .pan x => ∀ k' v, k.le k' → Inv w0 σ'' k' → FrRel k' n φ a → Rel k' x v → Q (.panic [{ v, recovered := false }]) a k'.w
   | .dfr f args σ' => ∃ φ', Bb n { φ with ds := (f, args) :: φ.ds } o.dst und = some φ' ∧ ∀ k' a', k.le k' → Inv w0 σ' k' → FrRel k' n φ' a' → K' a' k'.w
   | .pan x σ' => ∀ k' v, k.le k' → Inv w0 σ' k' → FrRel k' n φ a → Rel k' x v → Q (.panic [{ v, recovered := false }]) a k'.w
   | .rcv _ => False) : o.wp C.P a k.w K' Q := by
 refine Di hc hI hg hr h ?_
 cases r with
 | val x σ' => obtain ⟨φ', h1, h2⟩ := hK; exact ⟨φ', h1, fun k' a' a b c _ => h2 k' a' a b c⟩
 | skip σ' => obtain ⟨φ', h1, h2⟩ := hK; exact ⟨φ', h1, fun k' a' a b c _ => h2 k' a' a b c⟩
 | call f args σ' =>
  obtain ⟨out, σ'', h1, h2⟩ := hK
  refine ⟨out, σ'', h1, ?_⟩
  cases out with
  | ret x => obtain ⟨φ', h1, h2⟩ := h2; exact ⟨φ', h1, fun k' a' a b c _ => h2 k' a' a b c⟩
  | pan x => exact h2
 | dfr f args σ' => obtain ⟨φ', h1, h2⟩ := hK; exact ⟨φ', h1, fun k' a' a b c _ => h2 k' a' a b c⟩
 | pan x σ' => exact hK
 | rcv σ' => exact hK

theorem J9 (hc : Bi C w0 callF) (ops : Array Oper) : ∀ (l : List Oper) (φ : Fr) (σ : St) (k : K) (a : Act) (r : X × Fr × St), Aw C callF n ops l φ σ = some r → Inv w0 σ k → GlobOk C k → FrRel k n φ a →
  ∀ (Q : Exit → Act → World → Prop), (∀ e a' w', Ends w0 k n r e a' w' → Q e a' w') → wpList C.P ops Q l a k.w
 | [], φ, σ, k, a, r, h, hI, hg, hr, Q, hQ => by
  simp only [Aw] at h; cases h
  exact hQ _ _ _ ⟨rfl, k, rfl, K.le.refl k, hI, hr⟩
 | o :: l, φ, σ, k, a, r, h, hI, hg, hr, Q, hQ => by
  simp only [Aw] at h
  have next : ∀ (φ' : Fr) (σ' : St), Aw C callF n ops l φ' σ' = some r → ∀ k' a', k.le k' → Inv w0 σ' k' → FrRel k' n φ' a' → wpList C.P ops Q l a' k'.w :=
   fun φ' σ' h' k' a' h1 h2 h3 => J9 hc ops l φ' σ' k' a' r h' h2 (hg.mono h1) h3 Q (fun e a' w' he => hQ e a' w' (he.mono h1))
  unfold wpList
  split at h
  ·rename_i hw
   rw [B3 hr hw]
   refine Or.inl ?_
   split at h
   ·rename_i x σ' ho
    split at h
    case h_2 => cases h
    rename_i φ' hp
    exact D9 hc hI hg hr ho ⟨φ', hp, next φ' σ' h⟩
   ·rename_i σ' ho
    split at h
    case h_2 => cases h
    rename_i φ' hp
    exact D9 hc hI hg hr ho ⟨φ', hp, next φ' σ' h⟩
   ·rename_i f args σ' ho
    split at h
    ·rename_i x σ'' hcf
     split at h
     case h_2 => cases h
     rename_i φ' hp
     exact D9 hc hI hg hr ho ⟨.ret x, σ'', hcf, φ', hp, next φ' σ'' h⟩
    ·rename_i x σ'' hcf
     cases h
     exact D9 hc hI hg hr ho ⟨.pan x, σ'', hcf, fun k' v h1 h2 h3 h4 => hQ _ _ _ ⟨v, k', rfl, rfl, h1, h2, h3, h4⟩⟩
    ·cases h
   ·rename_i f args σ' ho
    split at h
    case h_2 => cases h
    rename_i φ' hp
    exact D9 hc hI hg hr ho ⟨φ', hp, next φ' σ' h⟩
   ·rename_i x σ' ho
    cases h
    exact D9 hc hI hg hr ho (fun k' v h1 h2 h3 h4 => hQ _ _ _ ⟨v, k', rfl, rfl, h1, h2, h3, h4⟩)
   ·cases h
  ·rename_i hw
   rw [B3 hr hw]
   split at h
   case h_2 => cases h
   rename_i φ' hp
   exact next φ' σ h k _ (K.le.refl k) hI (hr.put Er hp)
  ·cases h
end
end Go.DM
namespace Go.DM
open Go Go.RowKit

def Io (C : Cfg) (w0 : World) : Prop := ∀ (callF : CallF), Bi C w0 callF → ∀ (n : Nat) (ops : Array Oper) (φ : Fr) (σ : St) (k : K) (a : Act) (r : X × Fr × St) (id : Nat) (Q : Exit → Act → World → Prop),
 Db C callF n ops φ σ = some r → Inv w0 σ k → GlobOk C k → FrRel k n φ a →
 (∀ e a' w', Ends w0 k n r e a' w' → Q e a' w') → (Code.region id ops true).wp C.P Q a k.w

section
variable {C : Cfg} {w0 : World} {callF : CallF} {n : Nat}

theorem Bn (hd : Io C w0) (hc : Bi C w0 callF) : ∀ (fuel : Nat),
  (∀ (c : Code) (φ : Fr) (σ : St) (k : K) (a : Act) (r : X × Fr × St), A3 C callF n fuel c φ σ = some r → Inv w0 σ k → GlobOk C k → FrRel k n φ a →
   ∀ (Q : Exit → Act → World → Prop), (∀ e a' w', Ends w0 k n r e a' w' → Q e a' w') → c.wp C.P Q a k.w) ∧
  (∀ (c : Code) (φ : Fr) (σ : St) (k : K) (a : Act) (r : X × Fr × St), A3 C callF n fuel (.loop c) φ σ = some r → Inv w0 σ k → GlobOk C k → FrRel k n φ a →
   ∀ (Q : Exit → Act → World → Prop), (∀ e a' w', Ends w0 k n r e a' w' → Q e a' w') → Code.rounds C.P c Q fuel a k.w)
 | 0 => ⟨fun c φ σ k a r h => by simp [A3] at h, fun c φ σ k a r h => by simp [A3] at h⟩
 | f + 1 => by
  obtain ⟨ih, ihl⟩ := Bn hd hc f
  have loop : ∀ (c : Code) (φ : Fr) (σ : St) (k : K) (a : Act) (r : X × Fr × St), A3 C callF n (f + 1) (.loop c) φ σ = some r → Inv w0 σ k → GlobOk C k → FrRel k n φ a →
   ∀ (Q : Exit → Act → World → Prop), (∀ e a' w', Ends w0 k n r e a' w' → Q e a' w') → Code.rounds C.P c Q (f + 1) a k.w := by
   intro c φ σ k a r h hI hg hr Q hQ
   simp only [A3] at h
   rw [rounds_succ]
   split at h
   ·rename_i φ' σ' h1
    refine ih c φ σ k a _ h1 hI hg hr _ (fun e a' w' he => ?_)
    obtain ⟨rfl, k', rfl, g1, g2, g3⟩ := he
    exact ihl c φ' σ' k' a' r h g2 (hg.mono g1) g3 Q (fun e a' w' he => hQ e a' w' (he.mono g1))
   ·rename_i hne
    refine ih c φ σ k a _ h hI hg hr _ (fun e a' w' he => ?_)
    have hq := hQ e a' w' he
    cases e with
    | normal =>
     exfalso
     obtain ⟨x, φ', σ'⟩ := r
     cases x with
     | normal => exact hne _ _ h
     | exit id => exact absurd he.1 (by simp)
     | ret => exact absurd he.1 (by simp)
     | pan x => obtain ⟨v, k', h1, _⟩ := he; exact absurd h1 (by simp)
    | _ => exact hq
  refine ⟨fun c φ σ k a r h hI hg hr Q hQ => ?_, loop⟩
  cases c with
  | skip =>
   simp only [A3] at h; cases h
   exact wp_skip (hQ _ _ _ ⟨rfl, k, rfl, K.le.refl k, hI, hr⟩)
  | region id ops draw =>
   cases draw with
   | false =>
    simp only [A3] at h
    exact wp_region_list (J9 hc ops ops.toList φ σ k a r h hI hg hr Q hQ)
   | true =>
    simp only [A3] at h
    exact hd callF hc n ops φ σ k a r id Q h hI hg hr hQ
  | seq x y =>
   simp only [A3] at h
   refine wp_seq ?_
   split at h
   ·rename_i φ' σ' h1
    refine ih x φ σ k a _ h1 hI hg hr _ (fun e a' w' he => ?_)
    obtain ⟨rfl, k', rfl, g1, g2, g3⟩ := he
    exact ih y φ' σ' k' a' r h g2 (hg.mono g1) g3 Q (fun e a' w' he => hQ e a' w' (he.mono g1))
   ·rename_i hne
    refine ih x φ σ k a _ h hI hg hr _ (fun e a' w' he => ?_)
    have hq := hQ e a' w' he
    cases e with
    | normal =>
     exfalso
     obtain ⟨x, φ', σ'⟩ := r
     cases x with
     | normal => exact hne _ _ h
     | exit id => exact absurd he.1 (by simp)
     | ret => exact absurd he.1 (by simp)
     | pan x => obtain ⟨v, k', h1, _⟩ := he; exact absurd h1 (by simp)
    | _ => exact hq
  | cond x p q =>
   simp only [A3] at h
   split at h
   ·rename_i t hx
    have := rel_v_inv (D3 hg hr x _ hx)
    refine wp_cond (t := t) this ?_
    exact ih _ φ σ k a r h hI hg hr Q hQ
   ·cases h
  | block id c =>
   simp only [A3] at h
   refine wp_block ?_
   split at h
   ·rename_i j φ' σ' h1
    refine ih c φ σ k a _ h1 hI hg hr _ (fun e a' w' he => ?_)
    obtain ⟨rfl, he⟩ := he
    split at h
    ·rename_i hj
     cases h
     simp only [Exit.inBlock, if_pos hj]
     exact hQ _ _ _ ⟨rfl, he⟩
    ·rename_i hj
     cases h
     simp only [Exit.inBlock, if_neg hj]
     exact hQ _ _ _ ⟨rfl, he⟩
   ·rename_i hne
    refine ih c φ σ k a _ h hI hg hr _ (fun e a' w' he => ?_)
    have hq := hQ e a' w' he
    cases e with
    | exit id =>
     exfalso
     obtain ⟨x, φ', σ'⟩ := r
     cases x with
     | normal => exact absurd he.1 (by simp)
     | exit id => exact hne _ _ _ h
     | ret => exact absurd he.1 (by simp)
     | pan x => obtain ⟨v, k', h1, _⟩ := he; exact absurd h1 (by simp)
    | _ => exact hq
  | loop c => exact wp_loop_rounds (f + 1) (loop c φ σ k a r h hI hg hr Q hQ)
  | exit id =>
   simp only [A3] at h; cases h
   exact wp_exit (hQ _ _ _ ⟨rfl, k, rfl, K.le.refl k, hI, hr⟩)
  | ret =>
   simp only [A3] at h; cases h
   exact wp_ret (hQ _ _ _ ⟨rfl, k, rfl, K.le.refl k, hI, hr⟩)
  | _ => simp only [A3] at h; cases h

def PRel (k : K) (p : Option A) (u : FrameMode) : Prop := match p with
 | some x => ∃ v, u = .panicking [{ v, recovered := false }] ∧ Rel k x v
 | none => u = .returning ∨ ∃ v, u = .panicking [{ v, recovered := true }]
theorem PRel.mono {k k' : K} (h : k.le k') {p : Option A} {u : FrameMode} (hp : PRel k p u) : PRel k' p u := by
 cases p with
 | some x => obtain ⟨v, h1, h2⟩ := hp; exact ⟨v, h1, h2.mono h⟩
 | none => exact hp
def PSet (k : K) (p : Option A) (u : FrameMode) : Prop := match p with
 | some x => ∃ v, u = .panicking [{ v, recovered := false }] ∧ Rel k x v
 | none => u = .returning
theorem PSet.rel {k : K} {p : Option A} {u : FrameMode} (hp : PSet k p u) : PRel k p u := by
 cases p with
 | some x => exact hp
 | none => exact .inl hp
theorem PRel.settle {k : K} {p : Option A} {u : FrameMode} (hp : PRel k p u) : PSet k p (settle u) := by
 cases p with
 | some x => obtain ⟨v, rfl, h2⟩ := hp; exact ⟨v, rfl, h2⟩
 | none =>
  rcases hp with rfl | ⟨v, rfl⟩
  ·rfl
  ·rfl
theorem PSet.ne_run {k : K} {p : Option A} {u : FrameMode} (hp : PSet k p u) : u ≠ .run := by
 cases p with
 | some x => obtain ⟨v, rfl, _⟩ := hp; simp
 | none => have : u = .returning := hp; rw [this]; simp

def EndsS (w0 : World) (k : K) (n : Nat) (c0 : Frame) (cs0 : List Frame) (r : X × Fr × St × Option A) (e : Exit) (a : Act) (cs : List Frame) (w : World) : Prop :=
 match r with
 | (.normal, φ, σ, p) => e = .normal ∧ ∃ k' u, k'.w = w ∧ k.le k' ∧ Inv w0 σ k' ∧ FrRel k' n φ a ∧ PRel k' p u ∧ cs = { c0 with mode := u } :: cs0
 | (.ret, φ, σ, p) => e = .ret ∧ ∃ k' u, k'.w = w ∧ k.le k' ∧ Inv w0 σ k' ∧ FrRel k' n φ a ∧ PRel k' p u ∧ cs = { c0 with mode := u } :: cs0
 | _ => False
theorem EndsS.mono {k k' : K} (h : k.le k') {c0 : Frame} {cs0 : List Frame} {r : X × Fr × St × Option A} {e : Exit} {a : Act} {cs : List Frame} {w : World} (hr : EndsS w0 k' n c0 cs0 r e a cs w) : EndsS w0 k n c0 cs0 r e a cs w := by
 obtain ⟨x, φ, σ, p⟩ := r
 cases x with
 | normal => obtain ⟨h1, k2, u, h2, h3, h4⟩ := hr; exact ⟨h1, k2, u, h2, h.trans h3, h4⟩
 | ret => obtain ⟨h1, k2, u, h2, h3, h4⟩ := hr; exact ⟨h1, k2, u, h2, h.trans h3, h4⟩
 | _ => exact hr.elim

theorem Ip (hc : Bi C w0 callF) (ops : Array Oper) (c0 : Frame) (cs0 : List Frame) : ∀ (l : List Oper) (i : Nat) (φ : Fr) (σ : St) (p : Option A) (k : K) (a : Act) (u : FrameMode) (r : X × Fr × St × Option A),
  (∀ j, l[j]? = ops[i + j]?) → Ce C callF n ops l φ σ p = some r → Inv w0 σ k → GlobOk C k → FrRel k n φ a → PRel k p u →
  ∀ (Q : Exit → Act → List Frame → World → Prop), (∀ e a' cs w', EndsS w0 k n c0 cs0 r e a' cs w' → Q e a' cs w') → wpOpsS C.P ops Q (List.range' i l.length) a ({ c0 with mode := u } :: cs0) k.w
 | [], i, φ, σ, p, k, a, u, r, hl, h, hI, hg, hr, hp, Q, hQ => by
  simp only [Ce] at h; cases h
  exact hQ _ _ _ _ ⟨rfl, k, u, rfl, K.le.refl k, hI, hr, hp, rfl⟩
 | o :: l, i, φ, σ, p, k, a, u, r, hl, h, hI, hg, hr, hp, Q, hQ => by
  have h0 : ops[i]? = some o := by simpa using (hl 0).symm
  have hl' : ∀ j, l[j]? = ops[i + 1 + j]? := fun j => by have := hl (j + 1); simpa [Nat.add_assoc, Nat.add_comm 1 j] using this
  have next : ∀ (φ' : Fr) (σ' : St) (p' : Option A), Ce C callF n ops l φ' σ' p' = some r → ∀ k' a' u', k.le k' → Inv w0 σ' k' → FrRel k' n φ' a' → PRel k' p' u' → wpOpsS C.P ops Q (List.range' (i + 1) l.length) a' ({ c0 with mode := u' } :: cs0) k'.w :=
   fun φ' σ' p' h' k' a' u' h1 h2 h3 h4 => Ip hc ops c0 cs0 l (i + 1) φ' σ' p' k' a' u' r hl' h' h2 (hg.mono h1) h3 h4 Q (fun e a' cs w' he => hQ e a' cs w' (he.mono h1))
  simp only [Ce] at h
  simp only [List.length_cons, List.range'_succ, wpOpsS, h0]
  split at h
  ·rename_i hw
   rw [B3 hr hw]
   simp only [if_true]
   split at h
   ·rename_i x σ' ho
    split at h
    case h_2 => cases h
    rename_i φ' hpt
    obtain ⟨k', v, h1, h2, h3, h4⟩ := Im (ρ' := a.eval) hI (D3 hg hr) ho
    rw [h1]
    exact next φ' σ' p h k' _ u h4 h3 ((hr.mono h4).put h2 hpt) (hp.mono h4)
   ·rename_i σ' ho
    split at h
    case h_2 => cases h
    rename_i φ' hpt
    obtain ⟨k', h1, h3, h4⟩ := Im (ρ' := a.eval) hI (D3 hg hr) ho
    rw [h1]
    exact next φ' σ' p h k' _ u h4 h3 ((hr.mono h4).put Er hpt) (hp.mono h4)
   ·rename_i f args σ' ho
    obtain ⟨k', us, h1, h2, h3, h4⟩ := Im (ρ' := a.eval) hI (D3 hg hr) ho
    split at h
    case h_2 => cases h
    rename_i x σ'' hcf
    split at h
    case h_2 => cases h
    rename_i φ' hpt
    rw [h1]
    have hcall := hc f args σ' (.ret x) σ'' k' us.toList hcf h3 (hg.mono h4) h2
    show Calls C.P f us k'.w _
    refine Calls.mono (by simpa using hcall) (fun e w' he => ?_)
    obtain ⟨k2, v, rfl, rfl, g1, g2, g3⟩ := he
    exact next φ' σ'' p h k2 _ u (h4.trans g1) g2 ((hr.mono (h4.trans g1)).put g3 hpt) (hp.mono (h4.trans g1))
   ·rename_i σ' ho
    split at h
    case h_2 => cases h
    rename_i φ' hpt
    obtain ⟨k', h1, h3, h4⟩ := Im (ρ' := a.eval) hI (D3 hg hr) ho
    rw [h1]
    have hp' := hp.mono h4
    cases p with
    | some x =>
     obtain ⟨v, rfl, hv⟩ := hp'
     exact next φ' σ' none h k' _ (.panicking [{ v, recovered := true }]) h4 h3 ((hr.mono h4).put hv hpt) (.inr ⟨v, rfl⟩)
    | none =>
     have hrc : recoverD ({ c0 with mode := u } :: cs0) = none := by
      rcases hp' with rfl | ⟨v, rfl⟩ <;> rfl
     simp only [hrc]
     exact next φ' σ' none h k' _ u h4 h3 ((hr.mono h4).put (x := .v .nilIface) (.v rfl) hpt) hp'
   ·cases h
  ·rename_i hw
   rw [B3 hr hw]
   split at h
   case h_2 => cases h
   rename_i φ' hpt
   simp only [Bool.false_eq_true, if_false]
   exact next φ' σ p h k _ u (K.le.refl k) hI (hr.put Er hpt) hp
  ·cases h

theorem Bc (hd : Io C w0) (hc : Bi C w0 callF) (c0 : Frame) (cs0 : List Frame) (f : Nat) (c : Code) (φ : Fr) (σ : St) (p : Option A) (k : K) (a : Act) (u : FrameMode) (r : X × Fr × St × Option A)
  (h : (match A3 C callF n (f + 1) c φ σ with
   | some (.normal, φ', σ') => some (X.normal, φ', σ', p)
   | some (.ret, φ', σ') => some (.ret, φ', σ', p)
   | _ => none) = some r) (hI : Inv w0 σ k) (hg : GlobOk C k) (hr : FrRel k n φ a) (hp : PRel k p u) (Q : Exit → Act → List Frame → World → Prop)
  (hQ : ∀ e a' cs w', EndsS w0 k n c0 cs0 r e a' cs w' → Q e a' cs w') : c.wpS C.P Q a ({ c0 with mode := u } :: cs0) k.w := by
 refine wpS_of_wp ?_
 split at h
 ·rename_i φ' σ' h1
  cases h
  refine (Bn hd hc (f + 1)).1 c φ σ k a _ h1 hI hg hr _ (fun e a' w' he => ?_)
  obtain ⟨rfl, k', rfl, g1, g2, g3⟩ := he
  exact hQ _ _ _ _ ⟨rfl, k', u, rfl, g1, g2, g3, hp.mono g1, rfl⟩
 ·rename_i φ' σ' h1
  cases h
  refine (Bn hd hc (f + 1)).1 c φ σ k a _ h1 hI hg hr _ (fun e a' w' he => ?_)
  obtain ⟨rfl, k', rfl, g1, g2, g3⟩ := he
  exact hQ _ _ _ _ ⟨rfl, k', u, rfl, g1, g2, g3, hp.mono g1, rfl⟩
 ·cases h

theorem Hz (hd : Io C w0) (hc : Bi C w0 callF) (c0 : Frame) (cs0 : List Frame) : ∀ (fuel : Nat) (c : Code) (φ : Fr) (σ : St) (p : Option A) (k : K) (a : Act) (u : FrameMode) (r : X × Fr × St × Option A),
  Dp C callF n fuel c φ σ p = some r → Inv w0 σ k → GlobOk C k → FrRel k n φ a → PRel k p u →
  ∀ (Q : Exit → Act → List Frame → World → Prop), (∀ e a' cs w', EndsS w0 k n c0 cs0 r e a' cs w' → Q e a' cs w') → c.wpS C.P Q a ({ c0 with mode := u } :: cs0) k.w
 | 0, c, φ, σ, p, k, a, u, r, h, _, _, _, _, _, _ => by simp [Dp] at h
 | f + 1, c, φ, σ, p, k, a, u, r, h, hI, hg, hr, hp, Q, hQ => by
  have ih := Hz hd hc c0 cs0 f
  cases c with
  | region id ops draw =>
   cases draw with
   | false =>
    simp only [Dp] at h
    refine wpS_region ?_
    rw [List.range_eq_range', ← Array.length_toList]
    exact Ip hc ops c0 cs0 ops.toList 0 φ σ p k a u r (by simp) h hI hg hr hp Q hQ
   | true => exact Bc hd hc c0 cs0 f _ φ σ p k a u r h hI hg hr hp Q hQ
  | seq x y =>
   simp only [Dp] at h
   refine wpS_seq ?_
   split at h
   ·rename_i φ' σ' p' h1
    refine ih x φ σ p k a u _ h1 hI hg hr hp _ (fun e a' cs w' he => ?_)
    obtain ⟨rfl, k', u', rfl, g1, g2, g3, g4, rfl⟩ := he
    exact ih y φ' σ' p' k' a' u' r h g2 (hg.mono g1) g3 g4 Q (fun e a' cs w' he => hQ e a' cs w' (he.mono g1))
   ·rename_i hne
    refine ih x φ σ p k a u _ h hI hg hr hp _ (fun e a' cs w' he => ?_)
    have hq := hQ e a' cs w' he
    cases e with
    | normal =>
     exfalso
     obtain ⟨x, φ', σ', p'⟩ := r
     cases x with
     | normal => exact hne _ _ _ h
     | ret => exact absurd he.1 (by simp)
     | _ => exact he.elim
    | _ => exact hq
  | cond x s t =>
   simp only [Dp] at h
   split at h
   ·rename_i b hx
    have := rel_v_inv (D3 hg hr x _ hx)
    exact wpS_cond (t := b) this (ih _ φ σ p k a u r h hI hg hr hp Q hQ)
   ·cases h
  | skip => exact Bc hd hc c0 cs0 f (.skip) φ σ p k a u r h hI hg hr hp Q hQ
  | block i b => exact Bc hd hc c0 cs0 f (.block i b) φ σ p k a u r h hI hg hr hp Q hQ
  | loop b => exact Bc hd hc c0 cs0 f (.loop b) φ σ p k a u r h hI hg hr hp Q hQ
  | rangeFunc g q x y => exact Bc hd hc c0 cs0 f (.rangeFunc g q x y) φ σ p k a u r h hI hg hr hp Q hQ
  | exit i => exact Bc hd hc c0 cs0 f (.exit i) φ σ p k a u r h hI hg hr hp Q hQ
  | scope b => exact Bc hd hc c0 cs0 f (.scope b) φ σ p k a u r h hI hg hr hp Q hQ
  | label l => exact Bc hd hc c0 cs0 f (.label l) φ σ p k a u r h hI hg hr hp Q hQ
  | goto l => exact Bc hd hc c0 cs0 f (.goto l) φ σ p k a u r h hI hg hr hp Q hQ
  | ret => exact Bc hd hc c0 cs0 f (.ret) φ σ p k a u r h hI hg hr hp Q hQ
  | refuse y => exact Bc hd hc c0 cs0 f (.refuse y) φ σ p k a u r h hI hg hr hp Q hQ

theorem Od {σ : St} {k : K} (hI : Inv w0 σ k) {t : TypeId} {x a : A} {u : Value} (hx : Rel k x u) (h : Ci C.P t x σ = some a) : ∃ v, ((do loadVar t (← asAddr u)) : Sem Value).run C.P k.w = .ok v k.w ∧ Rel k a v := by
 obtain ⟨v, h1, h2⟩ := J6 hI hx h
 refine ⟨v, ?_, h2⟩
 rw [← h1]
 unfold Ci at h
 split at h
 ·cases hx with
  | ptr hb => rfl
 ·obtain ⟨c, y, rfl⟩ := hx.spInv; rfl
 ·cases h
def Oe (tmps : Array Value) : ResultVar → Sem Value
 | .tmp t => pure (tmps.getD t undef)
 | .cell a t => do loadVar t (← asAddr (tmps.getD a undef))
theorem Jk {σ : St} {k : K} (hI : Inv w0 σ k) {φ : Fr} {tmps : Array Value} (hs : ∀ t, Rel k (φ.at t) (tmps.getD t undef)) : ∀ {l : List ResultVar} {xs : List A}, B0 C φ σ l = some xs →
  ∃ vs : List Value, (l.mapM (Oe tmps)).run C.P k.w = .ok vs k.w ∧ RelL k xs vs
 | [], xs, h => by simp only [B0] at h; cases h; exact ⟨[], by simp, RelL.nil k⟩
 | .tmp t :: l, xs, h => by
  simp only [B0] at h
  split at h
  case h_2 => cases h
  rename_i x ys hx hy
  cases h
  obtain ⟨vs, h1, h2⟩ := Jk hI hs hy
  exact ⟨tmps.getD t undef :: vs, by simp only [List.mapM_cons, Oe, Sem.run_bind, Sem.run_pure, Result.andThen_ok, h1], RelL.cons (by rw [← Hr hx]; exact hs t) h2⟩
 | .cell a t :: l, xs, h => by
  simp only [B0] at h
  split at h
  case h_2 => cases h
  rename_i p hp
  split at h
  case h_2 => cases h
  rename_i y ys hx hy
  cases h
  obtain ⟨vs, h1, h2⟩ := Jk hI hs hy
  obtain ⟨v, h3, h4⟩ := Od (C := C) hI (hs a) (by rw [Hr hp]; exact hx)
  refine ⟨v :: vs, ?_, RelL.cons h4 h2⟩
  simp only [List.mapM_cons]
  rw [Sem.run_bind]
  have h3' : (Oe tmps (.cell a t)).run C.P k.w = .ok v k.w := h3
  rw [h3']
  simp only [Result.andThen_ok, Sem.run_bind, h1, Sem.run_pure]
theorem Rg (fn : Func) (tmps : Array Value) : results fn tmps = (do
  let vs ← fn.results.toList.mapM (Oe tmps)
  pure (if h : vs.toArray.size = 1 then vs.toArray[0] else .tuple vs.toArray)) := by
 unfold results
 rw [Array.mapM_eq_mapM_toList]
 simp only [bind_map_left]
 exact congrArg (fun (g : ResultVar → Sem Value) => ((do
  let vs ← fn.results.toList.mapM g
  pure (if h : vs.toArray.size = 1 then vs.toArray[0] else .tuple vs.toArray)) : Sem Value)) (funext fun x => by cases x <;> rfl)
theorem D4 {σ : St} {k : K} (hI : Inv w0 σ k) {φ : Fr} {tmps : Array Value} (hs : ∀ t, Rel k (φ.at t) (tmps.getD t undef)) {fn : Func} {xs : List A} (h : B0 C φ σ fn.results.toList = some xs) :
  ∃ v, (results fn tmps).run C.P k.w = .ok v k.w ∧ Rel k (An xs) v := by
 obtain ⟨vs, h1, h2⟩ := Jk hI hs h
 refine ⟨if h : vs.toArray.size = 1 then vs.toArray[0] else .tuple vs.toArray, ?_, ?_⟩
 ·rw [Rg, Sem.run_bind, h1]
  rfl
 ·match xs, vs, h2 with
  | [], [], h2 => exact .tup h2.1 h2.2
  | [x], [v], h2 => exact h2.2 0 x v rfl rfl
  | x :: y :: xs, v :: u :: vs, h2 =>
   have : ¬ (v :: u :: vs).toArray.size = 1 := by simp
   rw [dif_neg this]
   exact .tup h2.1 h2.2
  | [], _ :: _, h2 => exact absurd h2.1 (by simp)
  | [_], [], h2 => exact absurd h2.1 (by simp)
  | [_], _ :: _ :: _, h2 => exact absurd h2.1 (by simp)
  | _ :: _ :: _, [], h2 => exact absurd h2.1 (by simp)
  | _ :: _ :: _, [_], h2 => exact absurd h2.1 (by simp)

theorem Jl : ∀ (l : List A) (i t : Nat), (E6 i l).get t = if i ≤ t then l[t - i]? else none
 | [], i, t => by simp [E6]
 | a :: l, i, t => by
  simp only [E6, Tr.get_set, Jl l (i + 1) t]
  by_cases h : t = i
  ·subst h; simp
  ·rw [if_neg h]
   by_cases h1 : i ≤ t
   ·have h2 : i + 1 ≤ t := by omega
    rw [if_pos h1, if_pos h2]
    have : t - i = (t - (i + 1)) + 1 := by omega
    rw [this]; simp
   ·rw [if_neg h1, if_neg (by omega)]
theorem B7 {k : K} {args : List A} {us : List Value} (hr : RelL k args us) {n : Nat} (hn : args.length ≤ n) : FrRel k n ⟨E6 0 args, []⟩ { tmps := us.toArray ++ Array.replicate (n - us.toArray.size) undef, defers := [] } := by
 refine ⟨?_, fun t => ?_, rfl, fun j x d h => by simp at h⟩
 ·have := hr.1
  simp; omega
 ·simp only [Fr.at, Jl, Nat.zero_le, if_true, Nat.sub_zero, Array.getD_eq_getD_getElem?, Array.getElem?_append]
  by_cases ht : t < us.length
  ·have hta : t < args.length := by rw [hr.1]; exact ht
   simp only [List.size_toArray, ht, if_true, List.getElem?_toArray, List.getElem?_eq_getElem hta, List.getElem?_eq_getElem ht, Option.getD_some]
   exact hr.2 t _ _ (List.getElem?_eq_getElem hta) (List.getElem?_eq_getElem ht)
  ·have hta : args[t]? = none := List.getElem?_eq_none (by rw [hr.1]; omega)
   simp only [List.size_toArray, ht, if_false, hta, Option.getD_none]
   have : (Array.replicate (n - us.length) undef)[t - us.length]?.getD undef = undef := by
    rw [Array.getElem?_replicate]; split <;> rfl
   rw [this]
   exact Er

theorem Rh (hd : Io C w0) (hc : Bi C w0 callF) {fuel : Nat} {f : FuncId} {args : List A} {σ σ' : St} {p p' : Option A} (h : Mq C callF fuel f args σ p = some (σ', p')) {k : K} {us : List Value} (hI : Inv w0 σ k) (hg : GlobOk C k) (hr : RelL k args us) {u : FrameMode} (hp : PRel k p u)
  {R : Ending → FrameMode → World → Prop} (hR : ∀ k' u' v, k.le k' → Inv w0 σ' k' → PRel k' p' u' → R (.returned v) u' k'.w) : (∃ fn, C.P.funcs[f]? = some fn ∧ fn.name ≠ "runtime.NumGoroutine" ∧ fn.body.isSome = true) ∧ CallsD C.P f us.toArray u k.w R := by
 unfold Mq at h
 split at h
 case h_2 => cases h
 rename_i fn hf
 split at h
 case h_2 => cases h
 rename_i c hb
 split at h
 case isFalse => cases h
 rename_i hl
 refine ⟨⟨fn, hf, hl.2, by simp [hb]⟩, ?_⟩
 refine callsD_of_wpS hf hb (fun c0 cs hu => ?_)
 have hcs : c0 :: cs = { c0 with mode := u } :: cs := by rw [← hu]
 rw [hcs]
 have fin : ∀ φ, (match φ.ds, B0 C φ σ' fn.results.toList with
     | [], some _ => some (σ', p')
     | _, _ => none) = some (σ', p') → ∀ k' u' a', k.le k' → Inv w0 σ' k' → FrRel k' fn.ntmps φ a' → PRel k' p' u' → a'.defers = [] ∧ ∃ v, (results fn a'.tmps).run C.P k'.w = .ok v k'.w ∧ R (.returned v) u' k'.w := by
  intro φ h k' u' a' g1 g2 g3 g4
  split at h
  ·rename_i xs hds hx
   have hds' := g3.ds
   rw [hds] at hds'
   obtain ⟨v, q1, q2⟩ := D4 (C := C) g2 g3.slot hx
   exact ⟨hds'.inv_nil, v, q1, hR k' u' v g1 g2 g4⟩
  ·cases h
 split at h
 ·rename_i φ σ2 p2 h1
  have hh : σ2 = σ' ∧ p2 = p' := by
   split at h
   ·cases h; exact ⟨rfl, rfl⟩
   ·cases h
  obtain ⟨rfl, rfl⟩ := hh
  refine Hz hd hc c0 cs fuel c _ σ p k _ u _ h1 hI hg (B7 hr hl.1) hp _ (fun e a' cs' w' he => ?_)
  obtain ⟨rfl, k', u', rfl, g1, g2, g3, g4, rfl⟩ := he
  obtain ⟨q1, v, q2, q3⟩ := fin φ h k' u' a' g1 g2 g3 g4
  exact ⟨q1, u', rfl, v, q2, q3⟩
 ·rename_i φ σ2 p2 h1
  have hh : σ2 = σ' ∧ p2 = p' := by
   split at h
   ·cases h; exact ⟨rfl, rfl⟩
   ·cases h
  obtain ⟨rfl, rfl⟩ := hh
  refine Hz hd hc c0 cs fuel c _ σ p k _ u _ h1 hI hg (B7 hr hl.1) hp _ (fun e a' cs' w' he => ?_)
  obtain ⟨rfl, k', u', rfl, g1, g2, g3, g4, rfl⟩ := he
  obtain ⟨q1, v, q2, q3⟩ := fin φ h k' u' a' g1 g2 g3 g4
  exact ⟨q1, u', rfl, v, q2, q3⟩
 ·cases h

theorem Dj (hd : Io C w0) (hc : Bi C w0 callF) {fuel : Nat} {fn : Func} {tmps : Array Value} {R : Ending → World → Prop} : ∀ (ds : List (FuncId × List A)) (ds' : List Deferred) (σ σ'' : St) (p p'' : Option A) (k : K) (u : FrameMode),
  Bx C callF fuel ds σ p = some (σ'', p'') → Inv w0 σ k → GlobOk C k → DsRel k ds ds' → PSet k p u → (∀ k' u', k.le k' → Inv w0 σ'' k' → PSet k' p'' u' → Leaves C.P fn tmps R [] u' k'.w) → Leaves C.P fn tmps R ds' u k.w
 | [], ds', σ, σ'', p, p'', k, u, h, hI, hg, hr, hp, hR => by
  simp only [Bx] at h; cases h
  rw [hr.inv_nil]
  exact hR k u (K.le.refl k) hI hp
 | (f, args) :: ds, ds', σ, σ'', p, p'', k, u, h, hI, hg, hr, hp, hR => by
  simp only [Bx] at h
  split at h
  case h_2 => cases h
  rename_i σ' p' h1
  obtain ⟨d, ds2, rfl, ⟨us, vs, g1, g2, g3⟩, hr'⟩ := hr.inv_cons
  obtain ⟨⟨fn', hf, hn, hb⟩, hcd⟩ := Rh hd hc h1 hI hg g3 hp.rel (R := fun
    | .returned _, u', w' => Leaves C.P fn tmps R ds2 (settle u') w'
    | .panicked chain, u', w' => Leaves C.P fn tmps R ds2 (raised u' chain) w'
    | .outgrown, _, w' => R .outgrown w') (fun k' u' v q1 q2 q3 =>
     Dj hd hc ds ds2 σ' σ'' p' p'' k' (settle u') h q2 (hg.mono q1) (hr'.mono q1) q3.settle (fun k2 u2 e1 e2 e3 => hR k2 u2 (q1.trans e1) e2 e3))
  refine ⟨hp.ne_run, .func f, vs.toArray, f, (us ++ vs).toArray, g1, ?_, hcd⟩
  rw [g1, g2]
  have := Mt hf hn hb (us ++ vs).toArray k.w
  simpa [invoke] using this

def PrimOk (C : Cfg) (w0 : World) : Prop := ∀ (f : FuncId) (g : List A → St → Option (A × St)) (args : List A) (σ σ' : St) (x : A) (k : K) (us : List Value), C.prim f = some g → g args σ = some (x, σ') → Inv w0 σ k → GlobOk C k → RelL k args us →
 Calls C.P f us.toArray k.w (OutPost w0 k (.ret x) σ')

theorem call_good (hd : Io C w0) (hpr : PrimOk C w0) : ∀ (fuel : Nat), Bi C w0 (call C fuel)
 | 0 => fun f args σ out σ' k us h => by simp [call] at h
 | fuel + 1 => by
  have hc := call_good hd hpr fuel
  intro f args σ out σ' k us h hI hg hr
  simp only [call] at h
  split at h
  ·rename_i g hgp
   split at h
   ·rename_i x σ2 h1
    cases h
    exact hpr f g args σ _ x k us hgp h1 hI hg hr
   ·cases h
  split at h
  case h_2 => cases h
  rename_i fn hf
  split at h
  case h_2 => cases h
  rename_i c hb
  split at h
  case isFalse => cases h
  rename_i hl
  have fin : ∀ (φ : Fr) (σ2 : St) (p : Option A), (match Bx C (call C fuel) (fuel + 1) φ.ds σ2 p with
    | some (σ'', none) => match B0 C φ σ'' fn.results.toList with
     | some l => some (Out.ret (An l), σ'')
     | none => none
    | some (σ'', some y) => some (.pan y, σ'')
    | none => none) = some (out, σ') → ∀ (k' : K) (a : Act) (u : FrameMode), k.le k' → Inv w0 σ2 k' → FrRel k' fn.ntmps φ a → PSet k' p u → Leaves C.P fn a.tmps (OutPost w0 k out σ') a.defers u k'.w := by
   intro φ σ2 p h k' a u g1 g2 g3 g4
   split at h
   ·rename_i σ3 hlv
    refine Dj hd hc φ.ds a.defers σ2 σ3 p none k' u hlv g2 (hg.mono g1) g3.ds g4 (fun k2 u2 e1 e2 e3 => ?_)
    have : u2 = .returning := e3
    subst this
    split at h
    ·rename_i l hres
     cases h
     obtain ⟨v, q1, q2⟩ := D4 (C := C) e2 (fun t => (g3.slot t).mono e1) hres
     exact ⟨v, q1, k2, v, rfl, rfl, g1.trans e1, e2, q2⟩
    ·cases h
   ·rename_i σ3 y hlv
    cases h
    refine Dj hd hc φ.ds a.defers σ2 σ' p (some y) k' u hlv g2 (hg.mono g1) g3.ds g4 (fun k2 u2 e1 e2 e3 => ?_)
    obtain ⟨v, rfl, hv⟩ := e3
    exact ⟨k2, v, rfl, rfl, g1.trans e1, e2, hv⟩
   ·cases h
  have weak : ∀ (φ : Fr) (σ2 : St), (match Bx C (call C fuel) (fuel + 1) φ.ds σ2 none with
    | some (σ'', none) => match B0 C φ σ'' fn.results.toList with
     | some l => some (Out.ret (An l), σ'')
     | none => none
    | _ => none) = some (out, σ') → (match Bx C (call C fuel) (fuel + 1) φ.ds σ2 none with
    | some (σ'', none) => match B0 C φ σ'' fn.results.toList with
     | some l => some (Out.ret (An l), σ'')
     | none => none
    | some (σ'', some y) => some (.pan y, σ'')
    | none => none) = some (out, σ') := by
   intro φ σ2 h
   split at h
   ·rename_i σ3 hlv; rw [hlv]; exact h
   ·cases h
  refine calls_of_wp_defers hf hb ?_
  split at h
  ·rename_i φ σ2 h1
   refine (Bn hd hc (fuel + 1)).1 c _ σ k _ _ h1 hI hg (B7 hr hl) _ (fun e a' w' he => ?_)
   obtain ⟨rfl, k', rfl, g1, g2, g3⟩ := he
   exact fin φ σ2 none (weak φ σ2 h) k' a' .returning g1 g2 g3 rfl
  ·rename_i φ σ2 h1
   refine (Bn hd hc (fuel + 1)).1 c _ σ k _ _ h1 hI hg (B7 hr hl) _ (fun e a' w' he => ?_)
   obtain ⟨rfl, k', rfl, g1, g2, g3⟩ := he
   exact fin φ σ2 none (weak φ σ2 h) k' a' .returning g1 g2 g3 rfl
  ·rename_i x φ σ2 h1
   refine (Bn hd hc (fuel + 1)).1 c _ σ k _ _ h1 hI hg (B7 hr hl) _ (fun e a' w' he => ?_)
   obtain ⟨v, k', rfl, rfl, g1, g2, g3, g4⟩ := he
   exact fin φ σ2 (some x) h k' a' _ g1 g2 g3 ⟨v, rfl, g4⟩
  ·cases h
end
end Go.DM
namespace Go.DM
open Go Go.RowKit

section
variable {C : Cfg} {ρ₁ ρ₂ : Operand → Option A} {o : Oper} {σ : St}

theorem Gw : ∀ {l : List Operand}, (∀ x ∈ l, ρ₁ x = ρ₂ x) → Az ρ₁ l = Az ρ₂ l
 | [], _ => rfl
 | x :: l, h => by
  have ih := Gw (l := l) (fun y hy => h y (by simp [hy]))
  unfold Az at ih ⊢
  simp only [List.all_cons, ih, h x (by simp)]
theorem Dq : ∀ {l : List Operand}, (∀ x ∈ l, ρ₁ x = ρ₂ x) → C2 ρ₁ l = C2 ρ₂ l
 | [], _ => rfl
 | x :: l, h => by
  have ih := Dq (l := l) (fun y hy => h y (by simp [hy]))
  simp only [C2, ih, h x (by simp)]
theorem E0 : ∀ {l : List (Nat × Operand)}, (∀ x ∈ l, ρ₁ x.2 = ρ₂ x.2) → Cv ρ₁ l = Cv ρ₂ l
 | [], _ => rfl
 | (i, x) :: l, h => by
  have ih := E0 (l := l) (fun y hy => h y (by simp [hy]))
  simp only [Cv, ih, h (i, x) (by simp)]
theorem Ka {x : Option Operand} (h : ∀ y, x = some y → ρ₁ y = ρ₂ y) : E4 ρ₁ x = E4 ρ₂ x := by
 cases x with
 | none => rfl
 | some y => simp only [E4, h y rfl]
theorem Pq (hs : ∀ cs b, o.op ≠ .select cs b) (h : ∀ x ∈ o.op.operands, ρ₁ x = ρ₂ x) : Ao C ρ₁ o σ = Ao C ρ₂ o σ := by
 have h1 : Az ρ₁ o.op.operands.toList = Az ρ₂ o.op.operands.toList := Gw (fun x hx => h x (by simpa using hx))
 have h2 : execOp (Gf ρ₁) o = execOp (Gf ρ₂) o := execOp_congr o hs (fun x hx => by unfold Gf; rw [h x hx])
 unfold Ao Kz
 rw [h1, h2]

theorem Dr (h : ∀ x ∈ o.op.operands, ρ₁ x = ρ₂ x) : op C ρ₁ o σ = op C ρ₂ o σ := by
 have hdet : (∀ cs b, o.op ≠ .select cs b) → Ao C ρ₁ o σ = Ao C ρ₂ o σ := fun hs => Pq hs h
 cases hop : o.op <;> simp only [hop, Op.operands] at h
 case call c =>
  have hd := hdet (by simp [hop])
  have ha : ∀ x ∈ c.args, ρ₁ x = ρ₂ x := fun x hx => h x (by simp [Call.operands, hx])
  have hl : C2 ρ₁ c.args.toList = C2 ρ₂ c.args.toList := Dq (fun x hx => ha x (by simpa using hx))
  cases hc : c.callee with
  | value f =>
   have hf := h f (by simp [Call.operands, hc])
   simp only [op, hop, hc, hd, hf, hl]
  | invoke x name =>
   have hf := h x (by simp [Call.operands, hc])
   simp only [op, hop, hc, hf, hl]
  | builtin b =>
   simp only [op, hop, hc]
   have ha' : ∀ x ∈ c.args.toList, ρ₁ x = ρ₂ x := fun x hx => ha x (by simpa using hx)
   unfold Bd
   generalize c.args.toList = l at ha'
   rw [hd]
   match l, ha' with
   | [], _ => cases b <;> rfl
   | [x], ha' => have h1 := ha' x (by simp); cases b <;> first | rfl | simp only [h1]
   | [x, y], ha' => have h1 := ha' x (by simp); have h2 := ha' y (by simp); cases b <;> first | rfl | simp only [h1, h2]
   | x :: y :: z :: l, _ => cases b <;> rfl
 case defer c =>
  have ha : ∀ x ∈ c.args, ρ₁ x = ρ₂ x := fun x hx => h x (by simp [Call.operands, hx])
  have hl : C2 ρ₁ c.args.toList = C2 ρ₂ c.args.toList := Dq (fun x hx => ha x (by simpa using hx))
  cases hc : c.callee with
  | value f =>
   have hf := h f (by simp [Call.operands, hc])
   simp only [op, hop, hc, hf, hl]
  | _ => simp only [op, hop, hc]
 case build t ps =>
  simp only [op, hop]
  rw [E0 (l := ps.toList) (fun x hx => h x.2 (by simp; exact ⟨x.1, by simpa using hx⟩))]
 case buildSlice t n ps =>
  simp only [op, hop]
  rw [E0 (l := ps.toList) (fun x hx => h x.2 (by simp; exact ⟨x.1, by simpa using hx⟩))]
 case makeFunc f first cap =>
  simp only [op, hop]
  rw [Dq (l := first.toList) (fun x hx => h x (by simp; exact .inl (by simpa using hx))), Dq (l := cap.toList) (fun x hx => h x (by simp; exact .inr (by simpa using hx)))]
 case makeMap t r => cases r <;> simp only [op, hop]
 case slice t x lo hi mx =>
  cases mx with
  | some m => simp only [op, hop]
  | none =>
   simp only [op, hop]
   rw [h x (by simp), Ka (x := lo) (fun y hy => h y (by simp [hy])), Ka (x := hi) (fun y hy => h y (by simp [hy])), hdet (by simp [hop])]
 case select cs b => simp only [op, hop]
 case go c => simp only [op, hop]
 all_goals
  have hd := hdet (by simp [hop])
  simp at h
  first
   | simp only [op, hop, h]; done
   | simp only [op, hop, h, hd]; done
   | (simp only [op, hop, h])

theorem Pr {x : A} {σ' : St} (h : op C ρ₁ o σ = some (.val x σ')) (hq : isQuiet C o = true) (hs : ∀ t y lo hi mx b p l c, o.op = .slice t y lo hi mx → ρ₁ y ≠ some (.ms b p l c)) : σ' = σ := by
 have hdet : ∀ {r}, Ao C ρ₁ o σ = some r → ∃ a, r = .val a σ := by
  intro r h
  unfold Ao Kz at h
  split at h
  ·split at h
   ·split at h
    ·cases h; exact ⟨_, rfl⟩
    ·cases h
   ·cases h
  ·cases h
 have hdet' : Ao C ρ₁ o σ = some (.val x σ') → σ' = σ := fun h => by obtain ⟨a, ha⟩ := hdet h; cases ha; rfl
 have hw : ∀ {y : Option A}, Br y σ = some (.val x σ') → σ' = σ := fun h => by obtain ⟨a, _, ha⟩ := Ay h; cases ha; rfl
 cases hop : o.op <;> simp only [hop, isQuiet, Bool.false_eq_true] at hq <;> simp only [op, hop] at h
 case buildSlice t len parts =>
  have hm : C.mutB t = false := by simpa using hq
  split at h
  case h_2 => cases h
  rw [if_neg (by simp [hm])] at h
  exact hw h
 case convert s d y =>
  split at h
  case h_2 => cases h
  split at h
  ·rename_i a s2 hc
   cases h
   unfold D8 at hc
   repeat' split at hc
   all_goals first | (cases hc; rfl) | cases hc
  ·exact hdet' h
 case slice t y lo hi mx =>
  cases mx with
  | some m => simp only at h; cases h
  | none =>
   simp only at h
   split at h
   case h_2 => cases h
   rename_i y' l h' hy hl hh
   split at h
   ·rename_i a s2 hc
    cases h
    unfold Dw at hc
    split at hc
    ·repeat' split at hc
     all_goals first | (cases hc; rfl) | cases hc
    ·exact absurd hy (hs _ _ _ _ _ _ _ _ _ hop)
    ·repeat' split at hc
     all_goals first | (cases hc; rfl) | cases hc
    ·repeat' split at hc
     all_goals first | (cases hc; rfl) | cases hc
    ·cases hc
   ·exact hdet' h
 case call c =>
  cases hc : c.callee <;> simp only [hc, Bool.false_eq_true] at hq <;> simp only [hc] at h
  rename_i b
  unfold Bd at h
  cases b <;> simp only [Bool.false_eq_true] at hq
  all_goals
   repeat' split at h
  all_goals first | exact hdet' h | contradiction | (cases h; done) | (cases h; rfl)
 all_goals
  repeat' split at h
 all_goals first | exact hdet' h | exact hw h | (cases h; rfl) | (cases h; done)

theorem Acg {x : A} (h : opQ C ρ₁ o σ = some x) (hq : isQuiet C o = true) : op C ρ₁ o σ = some (.val x σ) := by
 have key : ∀ {y : A}, (∀ t z lo hi mx b p l c, o.op = .slice t z lo hi mx → ρ₁ z ≠ some (.ms b p l c)) → (match op C ρ₁ o σ with | some (.val x _) => some x | _ => none) = some y → op C ρ₁ o σ = some (.val y σ) := by
  intro y hs h
  split at h
  ·rename_i z s2 ho
   cases h
   rw [ho, Pr ho hq hs]
  ·cases h
 have hq' := hq
 unfold opQ at h
 cases hop : o.op <;> simp only [hop, isQuiet, Bool.false_eq_true] at hq' <;> simp only [hop] at h
 case buildSlice t len parts =>
  have hm : C.mutB t = false := by simpa using hq'
  rw [if_neg (by simp [hm])] at h
  exact key (fun t' z' lo' hi' mx' b p l c e => by rw [hop] at e; cases e) h
 case slice t z lo hi mx =>
  split at h
  ·cases h
  ·rename_i hne
   refine key (fun t' z' lo' hi' mx' b p l c e => ?_) h
   rw [hop] at e; cases e
   exact fun e => hne _ _ _ _ e
 case call c =>
  cases hc : c.callee <;> simp only [hc, Bool.false_eq_true] at hq' <;> simp only [hc] at h
  rename_i b
  cases b <;> simp only [Bool.false_eq_true] at hq' <;> exact key (fun t' z' lo' hi' mx' b p l c e => by rw [hop] at e; cases e) h
 all_goals exact key (fun t' z' lo' hi' mx' b p l c e => by rw [hop] at e; cases e) h
end

theorem T5 {x y : Value} (h : Qy x y = true) : x = y := by
 unfold Qy at h
 split at h <;> simp at h
 all_goals first
  | rfl
  | (subst h; rfl)
  | (obtain ⟨h1, h2⟩ := h; subst h1; subst h2; rfl)
  | (obtain ⟨h1, h2, h3⟩ := h; subst h1; subst h2; subst h3; rfl)
  | (obtain ⟨⟨h1, h2⟩, h3⟩ := h; subst h1; subst h2; subst h3; rfl)
  | (rename_i a b; obtain ⟨⟨a⟩⟩ := a; obtain ⟨⟨b⟩⟩ := b; simp at h; subst h; rfl)

mutual
theorem Ri : ∀ (x y : A), A.beq x y = true → x = y
 | .v x, y, h => by
  cases y <;> simp only [A.beq, Bool.false_eq_true] at h
  rw [T5 h]
 | .ptr b o, y, h => by
  cases y <;> simp [A.beq] at h
  obtain ⟨h1, h2⟩ := h; subst h1; subst h2; rfl
 | .sp cs o ap, y, h => by
  cases y <;> simp [A.beq] at h
  obtain ⟨⟨h1, h2⟩, h3⟩ := h
  rw [h1, h2, beqs_eq cs _ h3]
 | .sl z cs ap, y, h => by
  cases y <;> simp [A.beq] at h
  obtain ⟨⟨h1, h2⟩, h3⟩ := h
  rw [h1, h2, beqs_eq cs _ h3]
 | .ms b o l c, y, h => by
  cases y <;> simp [A.beq] at h
  obtain ⟨⟨⟨h1, h2⟩, h3⟩, h4⟩ := h
  rw [h1, h2, h3, h4]
 | .mp b, y, h => by
  cases y <;> simp [A.beq] at h
  rw [h]
 | .fn f u c, y, h => by cases y <;> simp [A.beq] at h
 | .ifc t x, y, h => by
  cases y <;> simp [A.beq] at h
  rw [h.1, Ri x _ h.2]
 | .agg cs, y, h => by
  cases y <;> simp [A.beq] at h
  rw [beqs_eq cs _ h]
 | .tup cs, y, h => by
  cases y <;> simp [A.beq] at h
  rw [beqs_eq cs _ h]
 | .raw i l, y, h => by cases y <;> simp [A.beq] at h
 | .junk, y, h => by cases y <;> simp [A.beq] at h
theorem beqs_eq : ∀ (x y : List A), beqs x y = true → x = y
 | [], y, h => by
  cases y with
  | nil => rfl
  | cons a r => simp [beqs] at h
 | x :: r, y, h => by
  cases y with
  | nil => simp [beqs] at h
  | cons a s =>
   simp [beqs] at h
   rw [Ri x a h.1, beqs_eq r s h.2]
end
theorem W9 {x y : A} (h : A.same x y = true) : x = y := by
 unfold A.same at h
 rw [Bool.or_eq_true] at h
 rcases h with h | h
 ·exact Ri _ _ h
 ·simpa using h
theorem Ps (x : A) : A.same x x = true := by
 unfold A.same
 simp
end Go.DM
namespace Go.DM
open Go Go.RowKit

section
variable {C : Cfg} {ρ : Operand → Option A} {o : Oper} {σ σ' : St} {x : A}
def T6 : Option R → Option A
 | some (.val x _) => some x
 | _ => none
theorem Rj : ∃ v : Option A, ∀ σ, Ao C ρ o σ = v.map fun a => R.val a σ := by
 unfold Ao
 by_cases hp : Az ρ o.op.operands.toList = true
 ·simp only [if_pos hp]
  unfold Kz
  cases det C.P (execOp (Gf ρ) o) with
  | none => exact ⟨none, fun _ => rfl⟩
  | some r =>
   cases r with
   | value u =>
    simp only
    cases Ee u with
    | none => exact ⟨none, fun _ => rfl⟩
    | some a => exact ⟨some a, fun _ => rfl⟩
   | _ => exact ⟨none, fun _ => rfl⟩
 ·simp only [if_neg hp]; exact ⟨none, fun _ => rfl⟩
theorem Iq (v : Option A) (σ : St) : T6 (v.map fun a => R.val a σ) = v := by cases v <;> rfl
theorem Jm (v : Option A) (σ : St) : T6 (Br v σ) = v := by cases v <;> rfl
theorem Pu {c : Call} (hop : o.op = .call c) (hq : Gg C ρ o = true) : c.callee = .builtin .len ∧ ∃ y a, c.args.toList = [y] ∧ ρ y = some a ∧ ((∃ z cs ap, a = .sl z cs ap) ∨ (∃ u, a = .v u) ∨ ∃ b o l k, a = .ms b o l k) := by
 unfold Gg at hq
 simp only [hop] at hq
 split at hq
 ·rename_i y h1 h2
  refine ⟨h1, y, ?_⟩
  split at hq
  ·rename_i hx; exact ⟨_, h2, hx, .inl ⟨_, _, _, rfl⟩⟩
  ·rename_i hx; exact ⟨_, h2, hx, .inr (.inl ⟨_, rfl⟩)⟩
  ·rename_i hx; exact ⟨_, h2, hx, .inr (.inr ⟨_, _, _, _, rfl⟩)⟩
  ·cases hq
 ·cases hq
theorem U5 (hq : Gg C ρ o = true) : T6 (op C ρ o σ) = T6 (op C ρ o σ') := by
 obtain ⟨v, hv⟩ := Rj (C := C) (ρ := ρ) (o := o)
 have hq0 := hq
 unfold Gg at hq
 cases hop : o.op <;> simp only [hop] at hq <;> first | cases hq | skip
 case call c =>
  obtain ⟨h1, y, a, h2, h3, h4⟩ := Pu hop hq0
  simp only [op, hop, h1, Bd, h2, h3, hv]
  rcases h4 with ⟨z, cs, ap, rfl⟩ | ⟨u, rfl⟩ | ⟨b, o, l, k, rfl⟩
  ·cases c.argTypes[0]? with
   | none => rfl
   | some t =>
    simp only [Ku]
    cases C.P.underlying t with
    | none => simp only [Iq]
    | some d => cases d <;> first | rfl | (cases v <;> rfl)
  ·cases c.argTypes[0]? with
   | none => rfl
   | some t =>
    simp only [Ku]
    cases C.P.underlying t with
    | none => simp only [Iq]
    | some d => cases d <;> first | rfl | (cases v <;> rfl)
  ·cases c.argTypes[0]? with
   | none => rfl
   | some t =>
    simp only [Ku]
    cases C.P.underlying t with
    | none => simp only [Iq]
    | some d => cases d <;> first | rfl | (cases v <;> rfl)
 case buildSlice t len parts =>
  have hm : C.mutB t = false := by simpa using hq
  simp only [op, hop]
  cases Cv ρ parts.toList with
  | none => rfl
  | some l => simp only [hm, Bool.false_eq_true, if_false, Jm]
 all_goals simp only [op, hop, hv]
 all_goals first
  | (split at hq
     ·rename_i hx
      simp only [hx, Ci]
      simp only [Jm]
     ·cases hq)
  | (repeat' split) <;> first | rfl | simp only [Iq, Jm] | skip
theorem U6 (hq : Gg C ρ o = true) (h : opQ C ρ o σ = some x) : opQ C ρ o σ' = some x := by
 have hv := U5 (C := C) (σ := σ) (σ' := σ') hq
 have hq0 := hq
 unfold Gg at hq
 unfold opQ at h ⊢
 have fin : T6 (op C ρ o σ) = some x → ∃ s, op C ρ o σ' = some (.val x s) := by
  intro e
  rw [hv] at e
  cases ho : op C ρ o σ' with
  | none => rw [ho] at e; cases e
  | some r => rw [ho] at e; cases r <;> first | (cases e; exact ⟨_, rfl⟩) | cases e
 have back : (∃ s, op C ρ o σ = some (.val x s)) → T6 (op C ρ o σ) = some x := by rintro ⟨s, hs⟩; rw [hs]; rfl
 cases hop : o.op <;> simp only [hop] at hq h ⊢ <;> first | cases hq | skip
 case buildSlice t len parts =>
  have hm : C.mutB t = false := by simpa using hq
  rw [if_neg (by simp [hm])] at h ⊢
  split at h
  ·rename_i y s hs; cases h
   obtain ⟨s', hs'⟩ := fin (back ⟨_, hs⟩)
   simp only [hs']
  ·cases h
 case call c =>
  obtain ⟨h1, _⟩ := Pu hop hq0
  simp only [h1] at h ⊢
  split at h
  ·rename_i y s hs; cases h
   obtain ⟨s', hs'⟩ := fin (back ⟨_, hs⟩)
   simp only [hs']
  ·cases h
 all_goals
  split at h
  ·rename_i y s hs; cases h
   obtain ⟨s', hs'⟩ := fin (back ⟨_, hs⟩)
   simp only [hs']
  ·cases h
end

def Og (acc : Array Nat) (o : Oper) : Nat := o.after.foldl (fun s e => if Region.binds .any e then s ||| 2 ^ e.on ||| acc.getD e.on 0 else s) 0
def Hj (acc : Array Nat) (o : Oper) : Array Nat := acc.push (Og acc o)
theorem T7 (ops : Array Oper) : Region.before ops = ops.toList.foldl Hj #[] := by
 unfold Region.before
 rw [← Array.foldl_toList]
 rfl
theorem Jn : ∀ (l : List Oper) (acc : Array Nat), (l.foldl Hj acc).size = acc.size + l.length
 | [], acc => rfl
 | o :: l, acc => by simp only [List.foldl_cons, Jn l, Hj, Array.size_push, List.length_cons]; omega
theorem Jo : ∀ (l : List Oper) (acc : Array Nat) (i : Nat), i < acc.size → (l.foldl Hj acc).getD i 0 = acc.getD i 0
 | [], acc, i, _ => rfl
 | o :: l, acc, i, h => by
  simp only [List.foldl_cons]
  rw [Jo l (Hj acc o) i (by simp [Hj]; omega)]
  simp [Hj, Array.getD_eq_getD_getElem?, Array.getElem?_push, Nat.ne_of_lt h]
theorem Sv : ∀ (l : List Oper) (acc : Array Nat) (i : Nat) (o : Oper), l[i]? = some o → (l.foldl Hj acc).getD (acc.size + i) 0 = Og ((l.take i).foldl Hj acc) o
 | [], acc, i, o, h => by simp at h
 | p :: l, acc, 0, o, h => by
  simp at h; subst h
  simp only [List.foldl_cons, Nat.add_zero, List.take_zero, List.foldl_nil]
  rw [Jo l (Hj acc p) acc.size (by simp [Hj])]
  simp [Hj, Array.getD_eq_getD_getElem?]
 | p :: l, acc, i + 1, o, h => by
  simp only [List.foldl_cons, List.take_succ_cons]
  have := Sv l (Hj acc p) i o (by simpa using h)
  rw [← this]
  congr 1
  simp [Hj]; omega
theorem Rk (acc : Array Nat) (o : Oper) (p : Nat) (h : (Og acc o).testBit p = true) : ∃ e ∈ o.after, Region.binds .any e = true ∧ (p = e.on ∨ (acc.getD e.on 0).testBit p = true) := by
 unfold Og at h
 rw [← Array.foldl_toList] at h
 have key : ∀ (l : List Edge) (s : Nat), (l.foldl (fun s e => if Region.binds .any e then s ||| 2 ^ e.on ||| acc.getD e.on 0 else s) s).testBit p = true → s.testBit p = true ∨ ∃ e ∈ l, Region.binds .any e = true ∧ (p = e.on ∨ (acc.getD e.on 0).testBit p = true) := by
  intro l
  induction l with
  | nil => intro s h; exact .inl h
  | cons e l ih =>
   intro s h
   simp only [List.foldl_cons] at h
   rcases ih _ h with h | ⟨e', h1, h2⟩
   ·split at h
    ·rename_i hb
     simp only [Nat.testBit_or, Bool.or_eq_true, Nat.testBit_two_pow, decide_eq_true_eq] at h
     rcases h with (h | h) | h
     ·exact .inl h
     ·exact .inr ⟨e, by simp, hb, .inl h.symm⟩
     ·exact .inr ⟨e, by simp, hb, .inr h⟩
    ·exact .inl h
   ·exact .inr ⟨e', by simp [h1], h2⟩
 rcases key _ _ h with h | ⟨e, h1, h2⟩
 ·simp at h
 ·exact ⟨e, by simpa using h1, h2⟩

structure Jp (C : Cfg) (ops : Array Oper) (j : Nat) : Prop where
 alloc : ∃ o, ops[j]? = some o ∧ Mp o = true
 use : ∀ p q o d, j < p → ops[p]? = some q → ops[j]? = some o → o.dst = some d → d ∈ Cd ops q → ∀ i r, i < j → ops[i]? = some r → isQuiet C r = false → bfr (Region.before ops) i p = true
theorem U7 {C : Cfg} {ops : Array Oper} {j : Nat} (h : Dy C ops (Region.before ops) j = true) : Jp C ops j := by
 unfold Dy at h
 split at h
 case h_2 => cases h
 rename_i o ho
 rw [Bool.and_eq_true] at h
 obtain ⟨h1, h2⟩ := h
 refine ⟨⟨o, ho, h1⟩, fun p q o' d hp hq ho' hd hs i r hi hr hl => ?_⟩
 rw [ho] at ho'; cases ho'
 have := (List.all_eq_true.1 h2) p (List.mem_range.2 (Array.getElem?_eq_some_iff.1 hq).1)
 rw [hq] at this
 simp only at this
 rw [hd] at this
 simp only [Bool.or_eq_true, decide_eq_true_eq, Bool.not_eq_true', List.contains_eq_mem, decide_eq_false_iff_not] at this
 rcases this with h | h | h
 ·omega
 ·exact absurd hs h
 ·have := (List.all_eq_true.1 h) i (List.mem_range.2 hi)
  rw [hr] at this
  simp only at this
  rw [hl, Bool.false_or] at this; exact this

structure U8 (C : Cfg) (ops : Array Oper) : Prop where
 on : ∀ j o e, ops[j]? = some o → e ∈ o.after → Region.binds .any e = true → e.on < j
 loud : ∀ i j p o, i ≠ j → ops[i]? = some p → ops[j]? = some o → isQuiet C p = false → isQuiet C o = false → (bfr (Region.before ops) i j = true ∨ bfr (Region.before ops) j i = true) ∨ (i < j ∧ Jp C ops j) ∨ (j < i ∧ Jp C ops i)
 slot : ∀ i j p o d, i ≠ j → ops[i]? = some p → ops[j]? = some o → p.dst = some d → d ∈ Cd ops o → bfr (Region.before ops) i j = true ∨ bfr (Region.before ops) j i = true

theorem Ach {C : Cfg} {ops : Array Oper} (h : C9 C ops (Region.before ops) = true) : U8 C ops := by
 unfold C9 at h
 rw [List.all_eq_true] at h
 have lt : ∀ {j : Nat} {o : Oper}, ops[j]? = some o → j ∈ List.range ops.size := fun h => List.mem_range.2 (Array.getElem?_eq_some_iff.1 h).1
 have pair : ∀ {i j : Nat} {p o : Oper}, i ≠ j → ops[i]? = some p → ops[j]? = some o → ((isQuiet C p || isQuiet C o || bfr (Region.before ops) i j || bfr (Region.before ops) j i || (decide (i < j) && Dy C ops (Region.before ops) j) || (decide (j < i) && Dy C ops (Region.before ops) i)) &&
      (match p.dst with
       | some d => !(Cd ops o).contains d || bfr (Region.before ops) i j || bfr (Region.before ops) j i
       | none => true)) = true := by
  intro i j p o hne hi hj
  have h1 := h j (lt hj)
  rw [hj] at h1
  simp only [Bool.and_eq_true] at h1
  have h2 := (List.all_eq_true.1 h1.2) i (lt hi)
  rw [hi] at h2
  simp only at h2
  rw [beq_false_of_ne hne, Bool.false_or] at h2
  exact h2
 refine ⟨fun j o e hj he hb => ?_, fun i j p o hne hi hj hp ho => ?_, fun i j p o d hne hi hj hd hs => ?_⟩
 ·have h1 := h j (lt hj)
  rw [hj] at h1
  simp only [Bool.and_eq_true, Array.all_eq_true_iff_forall_mem] at h1
  have := h1.1 e he
  simpa [hb] using this
 ·have := pair hne hi hj
  simp only [Bool.and_eq_true, hp, ho, Bool.false_or, Bool.or_eq_true, decide_eq_true_eq] at this
  rcases this.1 with (h | h) | h
  ·exact .inl h
  ·exact .inr (.inl ⟨h.1, U7 h.2⟩)
  ·exact .inr (.inr ⟨h.1, U7 h.2⟩)
 ·have := pair hne hi hj
  simp only [Bool.and_eq_true, hd] at this
  have h2 := this.2
  simp only [Bool.or_eq_true, Bool.not_eq_true', List.contains_eq_mem, decide_eq_false_iff_not] at h2
  rcases h2 with (h2 | h2) | h2
  ·exact absurd hs h2
  ·exact .inl h2
  ·exact .inr h2

theorem Ir {ops : Array Oper} (hT : ∀ j o e, ops[j]? = some o → e ∈ o.after → Region.binds .any e = true → e.on < j) {p i : Nat} (h : bfr (Region.before ops) p i = true) : ∃ o, ops[i]? = some o ∧ ∃ e ∈ o.after, Region.binds .any e = true ∧ (p = e.on ∨ bfr (Region.before ops) p e.on = true) := by
 unfold bfr at h ⊢
 rw [T7] at h ⊢
 cases ho : ops.toList[i]? with
 | none =>
  have hlen : ops.toList.length ≤ i := List.getElem?_eq_none_iff.1 ho
  have : (ops.toList.foldl Hj #[]).getD i 0 = 0 := by
   rw [Array.getD_eq_getD_getElem?, Array.getElem?_eq_none (by rw [Jn]; simpa using hlen)]; rfl
  rw [this] at h; simp at h
 | some o =>
  have ho' : ops[i]? = some o := by simpa using ho
  refine ⟨o, ho', ?_⟩
  have h1 := Sv ops.toList #[] i o ho
  simp only [List.size_toArray, List.length_nil, Nat.zero_add] at h1
  rw [h1] at h
  obtain ⟨e, h2, h3, h4⟩ := Rk _ _ _ h
  refine ⟨e, h2, h3, h4.imp id (fun h4 => ?_)⟩
  have hon := hT i o e ho' h2 h3
  have hi : i < ops.size := (Array.getElem?_eq_some_iff.1 ho').1
  have hk := Jo (ops.toList.drop i) ((ops.toList.take i).foldl Hj #[]) e.on (by rw [Jn]; simp; omega)
  rw [← List.foldl_append, List.take_append_drop] at hk
  rw [hk]; exact h4
theorem Oh {ops : Array Oper} (hT : ∀ j o e, ops[j]? = some o → e ∈ o.after → Region.binds .any e = true → e.on < j) : ∀ (i p : Nat), bfr (Region.before ops) p i = true → p < i := by
 intro i
 induction i using Nat.strongRecOn with
 | _ i ih =>
  intro p h
  obtain ⟨o, h1, e, h2, h3, h4⟩ := Ir hT h
  have hon := hT i o e h1 h2 h3
  rcases h4 with rfl | h4
  ·exact hon
  ·exact Nat.lt_trans (ih e.on hon p h4) hon

structure Ent where
 φ : Fr
 σ : St
 x : A

section
variable {C : Cfg} {w0 : World} {callF : CallF} {n : Nat} {ops : Array Oper}

def Jq (C : Cfg) (callF : CallF) (n : Nat) (ops : Array Oper) (dd al : Nat → Bool) (e : Nat → Ent) (i : Nat) (o : Oper) : Prop :=
 Bb n (e i).φ o.dst (e i).x = some (e (i + 1)).φ ∧
 ((Ae ops (e i).φ o = some false ∧ (e i).x = und ∧ (e (i + 1)).σ = (e i).σ) ∨
  (Ae ops (e i).φ o = some true ∧ isQuiet C o = true ∧ opQ C (ev C (e i).φ) o (e i).σ = some (e i).x ∧ (e (i + 1)).σ = (e i).σ) ∨
  (Ae ops (e i).φ o = some true ∧ isQuiet C o = false ∧ A5 C callF (e i).φ o (e i).σ = some ((e i).x, (e (i + 1)).σ)) ∨
  (dd i = true ∧ (e (i + 1)).σ = (e i).σ) ∨
  (al i = true ∧ Ae ops (e i).φ o = some true ∧ isQuiet C o = false ∧ Jc C o = true ∧ (e (i + 1)).σ = (e i).σ))
def Qu (C : Cfg) (ops : Array Oper) (e : Nat → Ent) (i : Nat) (o : Oper) : Prop := Ae ops (e i).φ o = some true ∧ isQuiet C o = true
def Lo (C : Cfg) (ops : Array Oper) (e : Nat → Ent) (i : Nat) : Prop := ∃ o, ops[i]? = some o ∧ Ae ops (e i).φ o = some true ∧ isQuiet C o = false

structure Pv (C : Cfg) (callF : CallF) (n : Nat) (ops : Array Oper) (dd al : Nat → Bool) (bef : Array Nat) (j : Nat) (past : List (Nat × St)) (pend : List (Nat × Fr × Oper × A)) (e : Nat → Ent) : Prop where
 fact : ∀ i o, j ≤ i → ops[i]? = some o → Jq C callF n ops dd al e i o
 past : ∀ i o, j ≤ i → dd i = false → ops[i]? = some o → Qu C ops e i o → ∀ x ∈ past, bfr bef x.1 i = true ∨ sameA C (e i).φ o x.2 (e i).x = true
 pastI : ∀ i o, j ≤ i → dd i = false → ops[i]? = some o → Qu C ops e i o → ∀ p, j ≤ p → p < i → al p = false → Lo C ops e p → bfr bef p i = true ∨ sameA C (e i).φ o (e p).σ (e i).x = true
 pend : ∀ i, j ≤ i → dd i = false → al i = false → Lo C ops e i → ∀ y ∈ pend, bfr bef y.1 i = true ∨ sameA C y.2.1 y.2.2.1 (e (i + 1)).σ y.2.2.2 = true
 pendI : ∀ i, j ≤ i → dd i = false → al i = false → Lo C ops e i → ∀ q o, j ≤ q → q < i → dd q = false → ops[q]? = some o → Qu C ops e q o → bfr bef q i = true ∨ sameA C (e q).φ o (e (i + 1)).σ (e q).x = true

def Dd (j : Nat) (a : Ent) (e : Nat → Ent) : Nat → Ent := fun i => if i = j then a else e i
theorem Ak (j : Nat) (a : Ent) (e : Nat → Ent) : Dd j a e j = a := by simp [Dd]
theorem A0 {j i : Nat} (a : Ent) (e : Nat → Ent) (h : j + 1 ≤ i) : Dd j a e i = e i := by
 have : ¬ i = j := by omega
 simp [Dd, this]

theorem Cm {bef : Array Nat} {j : Nat} {past past' : List (Nat × St)} {pend pend' : List (Nat × Fr × Oper × A)} {e : Nat → Ent} {a : Ent} {o : Oper} {dd al : Nat → Bool} (ho : ops[j]? = some o)
  (h : Pv C callF n ops dd al bef (j + 1) past' pend' e) (hf : Jq C callF n ops dd al (Dd j a e) j o) (hp : ∀ x ∈ past, x ∈ past') (hq : ∀ x ∈ pend, x ∈ pend')
  (h1 : dd j = false → Ae ops a.φ o = some true → isQuiet C o = true → (∀ x ∈ past, bfr bef x.1 j = true ∨ sameA C a.φ o x.2 a.x = true) ∧ (j, a.φ, o, a.x) ∈ pend')
  (h2 : al j = false → Ae ops a.φ o = some true → isQuiet C o = false → (dd j = false → ∀ y ∈ pend, bfr bef y.1 j = true ∨ sameA C y.2.1 y.2.2.1 (e (j + 1)).σ y.2.2.2 = true) ∧ (j, a.σ) ∈ past') :
  Pv C callF n ops dd al bef j past pend (Dd j a e) := by
 have hn : ∀ {i}, j ≤ i → i ≠ j → j + 1 ≤ i := fun h h' => by omega
 have lo : ∀ {i}, j + 1 ≤ i → Lo C ops (Dd j a e) i → Lo C ops e i := fun hi ⟨p, q1, q2⟩ => ⟨p, q1, by rw [A0 a e hi] at q2; exact q2⟩
 have qu : ∀ {i p}, j + 1 ≤ i → Qu C ops (Dd j a e) i p → Qu C ops e i p := fun hi q => by unfold Qu at q ⊢; rw [A0 a e hi] at q; exact q
 have loj : Lo C ops (Dd j a e) j → Ae ops a.φ o = some true ∧ isQuiet C o = false := by
  rintro ⟨p, q1, q2⟩
  rw [ho] at q1; cases q1
  rw [Ak] at q2; exact q2
 have quj : ∀ {p}, ops[j]? = some p → Qu C ops (Dd j a e) j p → p = o ∧ Ae ops a.φ o = some true ∧ isQuiet C o = true := by
  intro p q1 q2
  rw [ho] at q1; cases q1
  unfold Qu at q2
  rw [Ak] at q2; exact ⟨rfl, q2⟩
 refine ⟨fun i p hi hip => ?_, fun i p hi hdi hip hqu x hx => ?_, fun i p hi hdi hip hqu q hq1 hq2 hal hlo => ?_, fun i hi hdi hal hlo y hy => ?_, fun i hi hdi hal hlo q p hq1 hq2 hdq hqp hqu => ?_⟩
 ·by_cases hij : i = j
  ·subst hij; rw [ho] at hip; cases hip; exact hf
  ·have hi' := hn hi hij
   have := h.fact i p hi' hip
   unfold Jq at this ⊢
   rw [A0 a e hi', A0 a e (Nat.le_succ_of_le hi')]; exact this
 ·by_cases hij : i = j
  ·subst hij
   obtain ⟨rfl, q1, q2⟩ := quj hip hqu
   rw [Ak]
   exact (h1 hdi q1 q2).1 x hx
  ·have hi' := hn hi hij
   have := h.past i p hi' hdi hip (qu hi' hqu) x (hp x hx)
   rw [A0 a e hi']; exact this
 ·have hij : i ≠ j := by omega
  have hi' := hn hi hij
  rw [A0 a e hi']
  by_cases hqj : q = j
  ·subst hqj
   obtain ⟨q1, q2⟩ := loj hlo
   rw [Ak]
   exact h.past i p hi' hdi hip (qu hi' hqu) _ (h2 hal q1 q2).2
  ·have hq' := hn hq1 hqj
   rw [A0 a e hq']
   exact h.pastI i p hi' hdi hip (qu hi' hqu) q hq' hq2 hal (lo hq' hlo)
 ·by_cases hij : i = j
  ·subst hij
   obtain ⟨q1, q2⟩ := loj hlo
   rw [A0 a e (Nat.le_refl _)]
   exact (h2 hal q1 q2).1 hdi y hy
  ·have hi' := hn hi hij
   rw [A0 a e (Nat.le_succ_of_le hi')]
   exact h.pend i hi' hdi hal (lo hi' hlo) y (hq y hy)
 ·have hij : i ≠ j := by omega
  have hi' := hn hi hij
  rw [A0 a e (Nat.le_succ_of_le hi')]
  by_cases hqj : q = j
  ·subst hqj
   obtain ⟨rfl, q1, q2⟩ := quj hqp hqu
   rw [Ak]
   exact h.pend i hi' hdi hal (lo hi' hlo) _ (h1 hdq q1 q2).2
  ·have hq' := hn hq1 hqj
   rw [A0 a e hq']
   exact h.pendI i hi' hdi hal (lo hi' hlo) q p hq' hq2 hdq hqp (qu hq' hqu)

def Hk (bef : Array Nat) : Option Nat → Nat → Bool
 | none, _ => false
 | some p, i => decide (i = p) || bfr bef p i
def Fb (ops : Array Oper) (bef : Array Nat) : Option Nat → Nat → Bool
 | none, _ => false
 | some p, i => decide (p < i) && !bfr bef p i && (match ops[i]? with
  | some o => Nu o
  | none => false)
theorem Ds (bef : Array Nat) (jp : Nat) : ∀ (l : List Oper) (j : Nat) (φ : Fr) (σ : St) (past : List (Nat × St)) (pend : List (Nat × Fr × Oper × A)), jp < j → (∀ i, l[i]? = ops[j + i]?) →
  Gt C n ops bef jp l j φ σ past = true → ∃ e : Nat → Ent, (e j).φ = φ ∧ (e j).σ = σ ∧ Pv C callF n ops (Hk bef (some jp)) (Fb ops bef (some jp)) bef j past pend e
 | [], j, φ, σ, past, pend, hjp, hl, h => by
  have none : ∀ i, j ≤ i → ops[i]? = none := fun i hi => by
   have := hl (i - j)
   rw [show j + (i - j) = i by omega] at this
   rw [← this]; simp
  refine ⟨fun _ => ⟨φ, σ, und⟩, rfl, rfl, ⟨fun i o hi ho => ?_, fun i o hi _ ho => ?_, fun i o hi _ ho => ?_, fun i hi _ _ ⟨o, ho, _⟩ => ?_, fun i hi _ _ ⟨o, ho, _⟩ => ?_⟩⟩
  all_goals rw [none i hi] at ho; cases ho
 | o :: l, j, φ, σ, past, pend, hjp, hl, h => by
  have h0 : ops[j]? = some o := by simpa using (hl 0).symm
  have hl' : ∀ i, l[i]? = ops[j + 1 + i]? := fun i => by have := hl (i + 1); simpa [Nat.add_assoc, Nat.add_comm 1 i] using this
  simp only [Gt] at h
  split at h
  ·rename_i hb
   split at h
   case h_2 => cases h
   rename_i φ' hp
   have hdd : Hk bef (some jp) j = true := by simp [Hk, hb]
   obtain ⟨e, g1, g2, g3⟩ := Ds bef jp l (j + 1) φ' σ ((j, σ) :: past) pend (by omega) hl' h
   refine ⟨Dd j ⟨φ, σ, .junk⟩ e, by rw [Ak], by rw [Ak], ?_⟩
   refine Cm h0 g3 ?_ (fun _ h => by simp [h]) (fun _ h => h) (fun c => by rw [hdd] at c; cases c) (fun _ _ _ => ⟨fun c => (by rw [hdd] at c; cases c), by simp⟩)
   unfold Jq
   rw [Ak, A0 _ _ (Nat.le_refl _), g1, g2]
   exact ⟨hp, .inr (.inr (.inr (.inl ⟨hdd, rfl⟩)))⟩
  ·rename_i hb
   split at h
   ·rename_i hw
    split at h
    case isFalse =>
     rename_i hq
     have hq : isQuiet C o = false := by simpa using hq
     split at h
     case isFalse => cases h
     rename_i haz
     split at h
     case h_2 => cases h
     rename_i φ' hp
     obtain ⟨e, g1, g2, g3⟩ := Ds bef jp l (j + 1) φ' σ past pend (by omega) hl' h
     have hal : Fb ops bef (some jp) j = true := by
      have hb' : bfr bef jp j = false := by simpa using hb
      show (decide (jp < j) && !bfr bef jp j && (match ops[j]? with
       | some o => Nu o
       | none => false)) = true
      rw [h0]
      simp only [hb', hjp, decide_true, Bool.not_false, Bool.true_and]
      unfold Jc at haz
      unfold Nu
      split at haz
      ·rfl
      ·cases haz
     refine ⟨Dd j ⟨φ, σ, .junk⟩ e, by rw [Ak], by rw [Ak], ?_⟩
     refine Cm h0 g3 ?_ (fun _ h => h) (fun _ h => h) (fun _ _ h => by rw [hq] at h; cases h) (fun c => by rw [hal] at c; cases c)
     unfold Jq
     rw [Ak, A0 _ _ (Nat.le_refl _), g1, g2]
     exact ⟨hp, .inr (.inr (.inr (.inr ⟨hal, hw, hq, haz, rfl⟩)))⟩
    rename_i hq
    split at h
    case h_2 => cases h
    rename_i x hx
    split at h
    case isFalse => cases h
    rename_i hst
    split at h
    case h_2 => cases h
    rename_i φ' hp
    obtain ⟨e, g1, g2, g3⟩ := Ds bef jp l (j + 1) φ' σ past ((j, φ, o, x) :: pend) (by omega) hl' h
    refine ⟨Dd j ⟨φ, σ, x⟩ e, by rw [Ak], by rw [Ak], ?_⟩
    refine Cm h0 g3 ?_ (fun _ h => h) (fun _ h => by simp [h]) (fun _ _ _ => ⟨fun y hy => ?_, by simp⟩) (fun _ _ h => by rw [hq] at h; cases h)
    ·unfold Jq
     rw [Ak, A0 _ _ (Nat.le_refl _), g1, g2]
     exact ⟨hp, .inr (.inl ⟨hw, hq, hx, rfl⟩)⟩
    ·have := (List.all_eq_true.1 hst) y hy
     simpa using this
   ·rename_i hw
    split at h
    case h_2 => cases h
    rename_i φ' hp
    obtain ⟨e, g1, g2, g3⟩ := Ds bef jp l (j + 1) φ' σ past pend (by omega) hl' h
    refine ⟨Dd j ⟨φ, σ, und⟩ e, by rw [Ak], by rw [Ak], ?_⟩
    refine Cm h0 g3 ?_ (fun _ h => h) (fun _ h => h) (fun _ h _ => by simp only at h; rw [hw] at h; cases h) (fun _ h _ => by simp only at h; rw [hw] at h; cases h)
    unfold Jq
    rw [Ak, A0 _ _ (Nat.le_refl _), g1, g2]
    exact ⟨hp, .inl ⟨hw, rfl, rfl⟩⟩
   ·cases h
def Mv (C : Cfg) (callF : CallF) (ops : Array Oper) (e : Nat → Ent) (r : X × Fr × St) (m : Nat) : Option Nat → Prop
 | none => r = (.normal, (e m).φ, (e m).σ)
 | some p => ∃ o f args σ1 v σ2, ops[p]? = some o ∧ Ae ops (e p).φ o = some true ∧ isQuiet C o = false ∧ op C (ev C (e p).φ) o (e p).σ = some (.call f args σ1) ∧ callF f args σ1 = some (.pan v, σ2) ∧ r = (.pan v, Hn ops.toList (e p).φ, σ2)
theorem Pw {φ : Fr} {o : Oper} {σ σ2 : St} {v : A} (h : Fu C callF φ o σ = some (v, σ2)) : ∃ f args σ1, op C (ev C φ) o σ = some (.call f args σ1) ∧ callF f args σ1 = some (.pan v, σ2) := by
 unfold Fu at h
 split at h
 ·rename_i f args σ1 hop
  split at h
  ·rename_i v' σ2' hc
   cases h
   exact ⟨f, args, σ1, hop, hc⟩
  ·cases h
 ·cases h
theorem Eu (bef : Array Nat) : ∀ (l : List Oper) (j : Nat) (φ : Fr) (σ : St) (past : List (Nat × St)) (pend : List (Nat × Fr × Oper × A)) (r : X × Fr × St), (∀ i, l[i]? = ops[j + i]?) →
  B9 C callF n ops bef l j φ σ past pend = some r → ∃ (P : Option Nat) (e : Nat → Ent), (e j).φ = φ ∧ (e j).σ = σ ∧ Pv C callF n ops (Hk bef P) (Fb ops bef P) bef j past pend e ∧ (∀ p, P = some p → j ≤ p) ∧ Mv C callF ops e r (j + l.length) P
 | [], j, φ, σ, past, pend, r, hl, h => by
  simp only [B9] at h; cases h
  have none : ∀ i, j ≤ i → ops[i]? = none := fun i hi => by
   have := hl (i - j)
   rw [show j + (i - j) = i by omega] at this
   rw [← this]; simp
  refine ⟨.none, fun _ => ⟨φ, σ, und⟩, rfl, rfl, ⟨fun i o hi ho => ?_, fun i o hi _ ho => ?_, fun i o hi _ ho => ?_, fun i hi _ _ ⟨o, ho, _⟩ => ?_, fun i hi _ _ ⟨o, ho, _⟩ => ?_⟩, fun p c => by (cases c), rfl⟩
  all_goals rw [none i hi] at ho; cases ho
 | o :: l, j, φ, σ, past, pend, r, hl, h => by
  have h0 : ops[j]? = some o := by simpa using (hl 0).symm
  have hl' : ∀ i, l[i]? = ops[j + 1 + i]? := fun i => by have := hl (i + 1); simpa [Nat.add_assoc, Nat.add_comm 1 i] using this
  have hlen : j + (o :: l).length = j + 1 + l.length := by simp; omega
  have hat : ∀ (a : Ent) (e : Nat → Ent) (P : Option Nat), (∀ p, P = some p → j + 1 ≤ p) → Mv C callF ops e r (j + 1 + l.length) P → Mv C callF ops (Dd j a e) r (j + 1 + l.length) P := by
   intro a e P hP hE
   cases P with
   | none => simp only [Mv] at hE ⊢; rw [A0 a e (by omega)]; exact hE
   | some p => simp only [Mv] at hE ⊢; rw [A0 a e (hP p rfl)]; exact hE
  simp only [B9] at h
  split at h
  ·rename_i hw
   split at h
   ·rename_i hq
    split at h
    case h_2 => cases h
    rename_i x hx
    split at h
    case isFalse => cases h
    rename_i hst
    split at h
    case h_2 => cases h
    rename_i φ' hp
    obtain ⟨P, e, g1, g2, g3, g5, g4⟩ := Eu bef l (j + 1) φ' σ past ((j, φ, o, x) :: pend) r hl' h
    refine ⟨P, Dd j ⟨φ, σ, x⟩ e, by rw [Ak], by rw [Ak], ?_, fun p c => by (have := g5 p c; omega), by rw [hlen]; exact hat _ _ P g5 g4⟩
    refine Cm h0 g3 ?_ (fun _ h => h) (fun _ h => by simp [h]) (fun _ _ _ => ⟨fun y hy => ?_, by simp⟩) (fun _ _ h => by rw [hq] at h; cases h)
    ·unfold Jq
     rw [Ak, A0 _ _ (Nat.le_refl _), g1, g2]
     exact ⟨hp, .inr (.inl ⟨hw, hq, hx, rfl⟩)⟩
    ·have := (List.all_eq_true.1 hst) y hy
     simpa using this
   ·rename_i hq
    have hq : isQuiet C o = false := by simpa using hq
    split at h
    ·rename_i x σ' hx
     split at h
     case isFalse => cases h
     rename_i hst
     split at h
     case h_2 => cases h
     rename_i φ' hp
     obtain ⟨P, e, g1, g2, g3, g5, g4⟩ := Eu bef l (j + 1) φ' σ' ((j, σ) :: past) pend r hl' h
     refine ⟨P, Dd j ⟨φ, σ, x⟩ e, by rw [Ak], by rw [Ak], ?_, fun p c => by (have := g5 p c; omega), by rw [hlen]; exact hat _ _ P g5 g4⟩
     refine Cm h0 g3 ?_ (fun _ h => by simp [h]) (fun _ h => h) (fun _ _ h => by rw [hq] at h; cases h) (fun _ _ _ => ⟨fun _ y hy => ?_, by simp⟩)
     ·unfold Jq
      rw [Ak, A0 _ _ (Nat.le_refl _), g1, g2]
      exact ⟨hp, .inr (.inr (.inl ⟨hw, hq, hx⟩))⟩
     ·rw [g2]
      have := (List.all_eq_true.1 hst) y hy
      simpa using this
    ·split at h
     case h_2 => cases h
     rename_i v σ2 hpan
     split at h
     case h_2 => cases h
     rename_i φ' hp
     split at h
     case isFalse => cases h
     rename_i hdv
     cases h
     obtain ⟨e, g1, g2, g3⟩ := Ds (callF := callF) bef j l (j + 1) φ' σ ((j, σ) :: past) pend (by omega) hl' hdv
     obtain ⟨f, args, σ1, hop, hcf⟩ := Pw hpan
     have hdd : Hk bef (some j) j = true := by simp [Hk]
     refine ⟨some j, Dd j ⟨φ, σ, .junk⟩ e, by rw [Ak], by rw [Ak], ?_, fun p c => by (cases c; omega), ?_⟩
     ·refine Cm h0 g3 ?_ (fun _ h => by simp [h]) (fun _ h => h) (fun c => by rw [hdd] at c; cases c) (fun _ _ _ => ⟨fun c => (by rw [hdd] at c; cases c), by simp⟩)
      unfold Jq
      rw [Ak, A0 _ _ (Nat.le_refl _), g1, g2]
      exact ⟨hp, .inr (.inr (.inr (.inl ⟨hdd, rfl⟩)))⟩
     ·simp only [Mv]
      rw [Ak]
      exact ⟨o, f, args, σ1, v, σ2, h0, hw, hq, hop, hcf, rfl⟩
  ·rename_i hw
   split at h
   case h_2 => cases h
   rename_i φ' hp
   obtain ⟨P, e, g1, g2, g3, g5, g4⟩ := Eu bef l (j + 1) φ' σ past pend r hl' h
   refine ⟨P, Dd j ⟨φ, σ, und⟩ e, by rw [Ak], by rw [Ak], ?_, fun p c => by (have := g5 p c; omega), by rw [hlen]; exact hat _ _ P g5 g4⟩
   refine Cm h0 g3 ?_ (fun _ h => h) (fun _ h => h) (fun _ h _ => by simp only at h; rw [hw] at h; cases h) (fun _ h _ => by simp only at h; rw [hw] at h; cases h)
   unfold Jq
   rw [Ak, A0 _ _ (Nat.le_refl _), g1, g2]
   exact ⟨hp, .inl ⟨hw, rfl, rfl⟩⟩
  ·cases h
end
end Go.DM
namespace Go.DM
open Go Go.RowKit

def setO (φ : Fr) (d : Option Tmp) (x : A) : Fr := match d with
 | none => φ
 | some t => φ.set t x
theorem Dm (φ : Fr) (d : Option Tmp) (x : A) (t : Nat) : (setO φ d x).s.get t = if d = some t then some x else φ.s.get t := by
 unfold setO
 split
 ·simp
 ·rename_i u
  simp only [Fr.set, Tr.get_set]
  by_cases h : t = u
  ·subst h; simp
  ·have : ¬ u = t := fun e => h e.symm
   simp [h, this]
theorem Kn (φ : Fr) (d : Option Tmp) (x : A) : (setO φ d x).ds = φ.ds := by unfold setO; split <;> rfl
theorem Sw {n : Nat} {φ φ' : Fr} {d : Option Tmp} {x : A} (h : Bb n φ d x = some φ') : φ' = setO φ d x ∧ ∀ ψ : Fr, ∀ y : A, Bb n ψ d y = some (setO ψ d y) := by
 unfold Bb at h
 split at h
 ·cases h; exact ⟨rfl, fun _ _ => rfl⟩
 ·split at h
  ·rename_i ht; cases h; exact ⟨rfl, fun ψ y => by simp [Bb, ht, setO]⟩
  ·cases h
theorem FrRel.congr {k : K} {n : Nat} {φ ψ : Fr} {a : Act} (h : FrRel k n φ a) (h1 : ∀ t, ψ.s.get t = φ.s.get t) (h2 : ψ.ds = φ.ds) : FrRel k n ψ a :=
 ⟨h.size, fun t => by have : ψ.at t = φ.at t := by simp only [Fr.at, h1]
                      rw [this]; exact h.slot t, by rw [h2]; exact h.ds⟩

def Cf (ops : Array Oper) (i : Nat) : Option Tmp := (ops[i]?).bind (·.dst)

section
variable {C : Cfg} {w0 : World} {callF : CallF} {n : Nat} {ops : Array Oper} {e : Nat → Ent}

def loB (C : Cfg) (ops : Array Oper) (e : Nat → Ent) (i : Nat) : Bool := match ops[i]? with
 | some o => Ae ops (e i).φ o == some true && !isQuiet C o
 | none => false
theorem De {i : Nat} : loB C ops e i = true ↔ Lo C ops e i := by
 unfold loB Lo
 cases h : ops[i]? with
 | none => simp
 | some o => simp

def FG (ops : Array Oper) (x : Nat → A) (φ : Fr) (L : Nat → Bool) : Nat → Fr
 | 0 => φ
 | m + 1 => if L m then setO (FG ops x φ L m) (Cf ops m) (x m) else FG ops x φ L m

theorem Kb (x : Nat → A) (φ : Fr) (L : Nat → Bool) : ∀ m, (FG ops x φ L m).ds = φ.ds
 | 0 => rfl
 | m + 1 => by
  unfold FG
  split
  ·rw [Kn, Kb x φ L m]
  ·exact Kb x φ L m
theorem Rl {x y : Nat → A} (φ : Fr) (L : Nat → Bool) : ∀ m, (∀ i, i < m → L i = true → x i = y i) → FG ops x φ L m = FG ops y φ L m
 | 0, _ => rfl
 | m + 1, h => by
  unfold FG
  rw [Rl φ L m (fun i hi => h i (by omega))]
  split
  ·rename_i hL; rw [h m (by omega) hL]
  ·rfl
theorem Sx {x y : Nat → A} (φ : Fr) (L : Nat → Bool) (j t : Nat) (h : ∀ i, i ≠ j → x i = y i) : ∀ m, (FG ops x φ L m).s.get t = (FG ops y φ L m).s.get t ∨ (Cf ops j = some t ∧ (FG ops x φ L m).s.get t = some (x j))
 | 0 => .inl rfl
 | m + 1 => by
  have ih := Sx φ L j t h m
  unfold FG
  split
  ·rw [Dm, Dm]
   by_cases hd : Cf ops m = some t
   ·rw [if_pos hd, if_pos hd]
    by_cases hm : m = j
    ·subst hm; exact .inr ⟨hd, rfl⟩
    ·rw [h m hm]; exact .inl rfl
   ·rw [if_neg hd, if_neg hd]; exact ih
  ·exact ih

theorem Sy {N : Nat} (hφ : ∀ i, i < N → (e (i + 1)).φ = setO (e i).φ (Cf ops i) (e i).x) {x : Nat → A} (L : Nat → Bool) (j t : Nat) (h : ∀ i, i < N → Cf ops i = some t → (L i = true ↔ i < j)) (hx : ∀ i, i < N → Cf ops i = some t → L i = true → x i = (e i).x) :
  ∀ m, m ≤ N → (FG ops x (e 0).φ L m).s.get t = (e (min m j)).φ.s.get t
 | 0, _ => by simp [FG]
 | m + 1, hm => by
  have ih := Sy hφ L j t h hx m (by omega)
  unfold FG
  by_cases hd : Cf ops m = some t
  ·have hL := h m (by omega) hd
   by_cases hj : m < j
   ·rw [if_pos (hL.2 hj), Dm, if_pos hd, Nat.min_eq_left (by omega : m + 1 ≤ j), hφ m (by omega), Dm, if_pos hd, hx m (by omega) hd (hL.2 hj)]
   ·have : ¬ (L m = true) := fun c => hj (hL.1 c)
    rw [if_neg this, ih, Nat.min_eq_right (by omega), Nat.min_eq_right (by omega)]
  ·have h1 : (if L m = true then setO (FG ops x (e 0).φ L m) (Cf ops m) (x m) else FG ops x (e 0).φ L m).s.get t = (FG ops x (e 0).φ L m).s.get t := by
    split
    ·rw [Dm, if_neg hd]
    ·rfl
   rw [h1, ih]
   by_cases hj : m < j
   ·rw [Nat.min_eq_left (by omega : m ≤ j), Nat.min_eq_left (by omega : m + 1 ≤ j), hφ m (by omega), Dm, if_neg hd]
   ·rw [Nat.min_eq_right (by omega), Nat.min_eq_right (by omega)]

theorem U9 {x : Nat → A} (φ : Fr) (L : Nat → Bool) (j t : Nat) (hj : L j = false) (h : ∀ i, j < i → L i = true → Cf ops i = some t → Cf ops j ≠ some t) :
  ∀ m, (FG ops x φ (fun i => if i = j then true else L i) m).s.get t = if j < m ∧ Cf ops j = some t then some (x j) else (FG ops x φ L m).s.get t
 | 0 => by simp [FG]
 | m + 1 => by
  have ih := U9 (x := x) φ L j t hj h m
  unfold FG
  by_cases hm : m = j
  ·subst hm
   simp only [if_true, hj, Bool.false_eq_true, if_false, Dm]
   rw [ih]
   simp
  ·simp only [if_neg hm]
   by_cases hL : L m = true
   ·simp only [hL, if_true, Dm]
    by_cases hd : Cf ops m = some t
    ·rw [if_pos hd]
     by_cases hjm : j < m
     ·rw [if_neg (fun c => h m hjm hL hd c.2)]
      rw [if_pos hd]
     ·rw [if_neg (fun c => by omega)]
      rw [if_pos hd]
    ·rw [if_neg hd, if_neg hd, ih]
     by_cases hjm : j < m
     ·simp [hjm, Nat.lt_succ_of_lt hjm]
     ·have : ¬ j < m + 1 := by omega
      simp [hjm, this]
   ·have hL : L m = false := by simpa using hL
    simp only [hL, Bool.false_eq_true, if_false]
    rw [ih]
    by_cases hjm : j < m
    ·simp [hjm, Nat.lt_succ_of_lt hjm]
    ·have : ¬ j < m + 1 := by omega
     simp [hjm, this]

theorem Mw {N : Nat} (hσ : ∀ i, i < N → loB C ops e i = false → (e (i + 1)).σ = (e i).σ) (j : Nat) : ∀ d, j + d ≤ N → (e (j + d)).σ = (e j).σ ∨ ∃ p, j ≤ p ∧ p < j + d ∧ loB C ops e p = true ∧ (e (j + d)).σ = (e (p + 1)).σ
 | 0, _ => .inl rfl
 | d + 1, h => by
  by_cases hl : loB C ops e (j + d) = true
  ·exact .inr ⟨j + d, by omega, by omega, hl, rfl⟩
  ·have h0 : (e (j + (d + 1))).σ = (e (j + d)).σ := hσ (j + d) (by omega) (by simpa using hl)
   rcases Mw hσ j d (by omega) with ih | ⟨p, h1, h2, h3, h4⟩
   ·exact .inl (h0.trans ih)
   ·exact .inr ⟨p, h1, by omega, h3, h0.trans h4⟩

theorem Ml {φ ψ : Fr} {o : Oper} (h : ∀ t, t ∈ Cd ops o → φ.s.get t = ψ.s.get t) : Ae ops φ o = Ae ops ψ o := by
 unfold Ae
 cases hg : o.guard with
 | none => rfl
 | some jw =>
  obtain ⟨j, want⟩ := jw
  simp only
  have : C8 ops φ j = C8 ops ψ j := by
   unfold C8
   cases hd : (ops[j]?).bind (·.dst) with
   | none => rfl
   | some d =>
    simp only
    rw [h d (by simp [Cd, hg, hd])]
  rw [this]
theorem Va {φ ψ : Fr} {o : Oper} (h : ∀ t, t ∈ Cd ops o → φ.s.get t = ψ.s.get t) : ∀ x ∈ o.op.operands, ev C φ x = ev C ψ x := by
 intro x hx
 cases x with
 | tmp t =>
  simp only [ev]
  rw [h t (by
   unfold Cd
   refine List.mem_append_left _ (List.mem_append_left _ (List.mem_filterMap.2 ⟨.tmp t, by simpa using hx, rfl⟩)))]
 | _ => rfl

def xq (C : Cfg) (ops : Array Oper) (e : Nat → Ent) (q i : Nat) : A := if loB C ops e i = true ∧ q ≤ i then .junk else (e i).x
def Ea (C : Cfg) (ops : Array Oper) (e : Nat → Ent) (L : Nat → Bool) (q i : Nat) : Prop := q ≤ i ∧ i < ops.size ∧ loB C ops e i = true ∧ L i = true
def Birth (k : K) (x : A) (σ σ' : St) (O : Obj) (c : Nat) (v : Value) : Prop :=
 (∃ X, σ' = σ.push X ∧ BlkRel k X O ∧ ∀ k' : K, k'.blk σ.next = some c → Rel k' x v) ∨
 (∃ us t sz m, O = .cells us t (0, 0) ∧ 0 < sz ∧ x = .sl sz [] (.gr σ.nextT) ∧ σ' = σ.tok t ∧ us.size = m * sz ∧ v = .slice (some ⟨c, 0, none⟩) 0 m)
theorem Birth.mono0 {k k' : K} {x : A} {σ σ' : St} {O : Obj} {c : Nat} {v : Value} (h : k.le0 k') (hb : Birth k x σ σ' O c v) : Birth k' x σ σ' O c v := by
 rcases hb with ⟨X, h1, h2, h3⟩ | h1
 ·exact .inl ⟨X, h1, h2.mono0 h, h3⟩
 ·exact .inr h1
theorem Birth.grown {σ σ' : St} {k : K} {x : A} {O : Obj} {c : Nat} {v : Value} (hb : Birth k x σ σ' O c v) (hI : Inv w0 σ k) (hu : k.unk c O) (hB : w0.heap.size ≤ c) :
  ∃ k', k'.w = k.w ∧ Inv w0 σ' k' ∧ K.le0 k k' ∧ Rel k' x v ∧ (∀ c' o', k.unk c' o' → c' ≠ c → k'.unk c' o') ∧ ∀ c' m, k.frz c' = some m → k'.frz c' = some m := by
 rcases hb with ⟨X, rfl, h2, h3⟩ | ⟨us, t, sz, m, rfl, h1, rfl, rfl, h2, rfl⟩
 ·obtain ⟨g1, g2, g3, g4⟩ := hI.adopt hu hB h2
  exact ⟨k.adopt σ.next c, rfl, g1, g2, h3 _ g3, g4, fun _ _ h => h⟩
 ·obtain ⟨g1, g2, g3, g4⟩ := hI.adoptTok hu hB
  exact ⟨k.adoptTok c σ.nextT, rfl, g1, g2, Sr (k := k.adoptTok c σ.nextT) h1 (if_pos rfl) (if_pos rfl) hu.1 h2, g3, g4⟩
structure Ear (C : Cfg) (w0 : World) (ops : Array Oper) (e : Nat → Ent) (al : Nat → Bool) (L : Nat → Bool) (q : Nat) (k0 k : K) (a : Act) (cs : Nat → Nat) : Prop where
 ear : ∀ i, Ea C ops e L q i → Jp C ops i
 blk : ∀ i, Ea C ops e L q i → ∃ O v, k.unk (cs i) O ∧ (∀ t, Cf ops i = some t → a.tmps.getD t undef = v) ∧ (al i = false → Birth k (e i).x (e i).σ (e (i + 1)).σ O (cs i) v)
 old : ∀ i, Ea C ops e L q i → w0.heap.size ≤ cs i ∧ ∀ o, ¬ k0.unk (cs i) o
 inj : ∀ i i', Ea C ops e L q i → Ea C ops e L q i' → cs i = cs i' → i = i'

theorem Is {ρ : Operand → Option A} {ρ' : Operand → Value} {o : Oper} {σ : St} {r : R} (k : K) (hρ : ∀ x a, ρ x = some a → Rel k a (ρ' x)) (hn : Mp o = true) (h : op C ρ o σ = some r) :
  ∃ O v x σ', r = .val x σ' ∧ (execOp ρ' o).run C.P k.w = .ok (.value v) (k.w.alloc O) ∧ Birth k x σ σ' O k.w.heap.size v := by
 unfold Mp at hn
 split at hn
 ·rename_i t ht
  simp only [op, ht] at h
  split at h
  case h_2 => cases h
  rename_i z hz
  cases h
  obtain ⟨i, zv, us, g1, g2, g3, g4⟩ := C4 (k := k) hz
  refine ⟨.cells us.toArray t, .pointer (some ⟨k.w.heap.size, 0, none⟩), _, _, rfl, ?_, .inl ⟨_, rfl, .of g4, fun k' h => .ptr h⟩⟩
  simp [execOp, ht, Instr.alloc, Am g1 g2, newVar, g3, newRow]
 ·rename_i t x ht
  simp only [op, ht] at h
  split at h
  case h_2 => cases h
  rename_i a ha
  split at h
  case isFalse => cases h
  rename_i ho
  cases h
  have hcs := (hρ _ _ ha).cells (Cj ho)
  obtain ⟨us, g1, g2⟩ : ∃ us : List Value, (ρ' x).cells = us.toArray ∧ RelL k a.cells us := ⟨_, by simp, hcs⟩
  refine ⟨.cells us.toArray t, .pointer (some ⟨k.w.heap.size, 0, none⟩), _, _, rfl, ?_, .inl ⟨_, rfl, .of g2, fun k' h => .ptr h⟩⟩
  simp [execOp, ht, Instr.box, newVar, g1, newRow]
 ·rename_i t l c ht
  simp only [op, ht] at h
  split at h
  case h_2 => cases h
  rename_i l' c' hl hc
  obtain ⟨a, σ', h1, rfl⟩ := B4 h
  obtain ⟨us, e, l2, c2, hrun, ⟨z, rfl, rfl, hr, hle, hcx⟩ | ⟨sz, hsz, rfl, rfl, rfl, hlen⟩⟩ := Gi k (hρ _ _ hl) (hρ _ _ hc) h1
  ·exact ⟨.cells us.toArray e, _, _, _, rfl, by simp only [execOp, ht, Sem.run_bind, hrun, Result.andThen_ok, Sem.run_pure], .inl ⟨_, rfl, .of hr, fun k' h => .ms h hle hcx⟩⟩
  ·exact ⟨.cells us.toArray e, _, _, _, rfl, by simp only [execOp, ht, Sem.run_bind, hrun, Result.andThen_ok, Sem.run_pure], .inr ⟨us.toArray, e, sz, c2, rfl, hsz, rfl, rfl, by simp [hlen], rfl⟩⟩
 ·rename_i t r' ht
  cases r' with
  | some x => simp only [op, ht] at h; cases h
  | none =>
   simp only [op, ht] at h
   cases h
   refine ⟨.map #[] 0, .map (some k.w.heap.size), _, _, rfl, ?_, .inl ⟨_, rfl, ⟨[], rfl, rfl, fun j e f h => by simp at h⟩, fun k' h => .mp h⟩⟩
   simp [execOp, ht, Instr.makeMap]
 ·cases hn

theorem Xa {φ : Fr} {o : Oper} {σ σ' : St} {x : A} (hn : Mp o = true) (k : K) (ρ' : Operand → Value) (hρ : ∀ x a, ev C φ x = some a → Rel k a (ρ' x)) (h : A5 C callF φ o σ = some (x, σ')) :
  ∃ O v, (execOp ρ' o).run C.P k.w = .ok (.value v) (k.w.alloc O) ∧ Birth k x σ σ' O k.w.heap.size v := by
 unfold A5 at h
 split at h
 ·rename_i x0 σ0 hop
  cases h
  obtain ⟨O, v, x1, σ1, g1, g2, g3⟩ := Is k hρ hn hop
  cases g1
  exact ⟨O, v, g2, g3⟩
 ·rename_i σ0 hop
  obtain ⟨O, v, x1, σ1, g1, _⟩ := Is k hρ hn hop
  cases g1
 ·rename_i f args σ0 hop
  obtain ⟨O, v, x1, σ1, g1, _⟩ := Is k hρ hn hop
  cases g1
 ·cases h
theorem T8 {ρ : Operand → Option A} {o : Oper} (σ : St) (h : Jc C o = true) : ∃ r, op C ρ o σ = some r := by
 unfold Jc at h
 split at h
 ·rename_i t ht
  obtain ⟨z, hz⟩ := Option.isSome_iff_exists.1 h
  exact ⟨_, by simp only [op, ht, hz]; rfl⟩
 ·cases h
theorem Px : ∀ (l : List Oper) (φ : Fr), (Hn l φ).ds = φ.ds
 | [], _ => rfl
 | o :: l, φ => by
  show (Hn l (J2 φ o)).ds = φ.ds
  rw [Px l]; unfold J2; split <;> rfl
theorem Lg : ∀ (l : List Oper) (φ : Fr) (t : Nat), φ.s.get t = some .junk → (Hn l φ).s.get t = some .junk
 | [], _, _, h => h
 | o :: l, φ, t, h => Lg l _ t (by
   unfold J2
   split
   ·simp only [Fr.set, Tr.get_set]; split
    ·rfl
    ·exact h
   ·exact h)
theorem Py : ∀ (l : List Oper) (φ : Fr) (t : Nat), (Hn l φ).s.get t = some .junk ∨ ((Hn l φ).s.get t = φ.s.get t ∧ ∀ o ∈ l, o.dst ≠ some t)
 | [], _, _ => .inr ⟨rfl, fun o h => by simp at h⟩
 | o :: l, φ, t => by
  by_cases hd : o.dst = some t
  ·left
   refine Lg l _ t ?_
   unfold J2
   rw [hd]
   simp only [Fr.set, Tr.get_set, if_true]
  ·rcases Py l (J2 φ o) t with h | ⟨h1, h2⟩
   ·exact .inl h
   ·right
    refine ⟨h1.trans ?_, fun o' ho' => ?_⟩
    ·unfold J2
     split
     ·rename_i d hdd
      simp only [Fr.set, Tr.get_set]
      rw [if_neg (fun c => hd (by rw [hdd, c]))]
     ·rfl
    ·rcases List.mem_cons.1 ho' with rfl | h
     ·exact hd
     ·exact h2 o' h

theorem Hb {L : Nat → Bool} {cs : Nat → Nat} {k0 : K} {a : Act} {al : Nat → Bool} (hal : ∀ i, al i = true → ∃ p, p < i ∧ loB C ops e p = true ∧ L p = false) (hσ : ∀ i, i < ops.size → loB C ops e i = false → (e (i + 1)).σ = (e i).σ) :
  ∀ (d q1 : Nat) (k : K), ops.size - q1 = d → q1 ≤ ops.size → k0.le k → (∀ i, i < q1 → loB C ops e i = true → L i = true) → Inv w0 (e q1).σ k → FrRel k n (FG ops (xq C ops e q1) (e 0).φ L ops.size) a → Ear C w0 ops e al L q1 k0 k a cs →
   ∃ q k', q ≤ ops.size ∧ (∀ i, i < q → loB C ops e i = true → L i = true) ∧ (q < ops.size → loB C ops e q = true ∧ L q = false) ∧ k'.w = k.w ∧ k0.le k' ∧ Inv w0 (e q).σ k' ∧ FrRel k' n (FG ops (xq C ops e q) (e 0).φ L ops.size) a ∧ Ear C w0 ops e al L q k0 k' a cs
 | 0, q1, k, hd, hq, hk, h1, hI, hr, hE => ⟨q1, k, hq, h1, fun h => by omega, rfl, hk, hI, hr, hE⟩
 | d + 1, q1, k, hd, hq, hk, h1, hI, hr, hE => by
  have hlt : q1 < ops.size := by omega
  have up : ∀ i, Ea C ops e L (q1 + 1) i → Ea C ops e L q1 i := fun i ⟨a, b, c, d⟩ => ⟨by omega, b, c, d⟩
  cases hl : loB C ops e q1 with
  | false =>
   refine Hb hal hσ d (q1 + 1) k (by omega) (by omega) hk (fun i hi hli => ?_) (by rw [hσ q1 hlt hl]; exact hI) ?_ ⟨fun i h => hE.ear i (up i h), fun i h => hE.blk i (up i h), fun i h => hE.old i (up i h), fun i i' h h' => hE.inj i i' (up i h) (up i' h')⟩
   ·by_cases hiq : i = q1
    ·subst hiq; rw [hl] at hli; cases hli
    ·exact h1 i (by omega) hli
   ·rw [← Rl (x := xq C ops e q1) (e 0).φ L ops.size (fun i _ _ => ?_)]
    ·exact hr
    ·unfold xq
     by_cases hiq : i = q1
     ·subst hiq; rw [hl]; simp
     ·have : q1 ≤ i ↔ q1 + 1 ≤ i := by omega
      simp only [this]
  | true =>
   cases hL : L q1 with
   | false => exact ⟨q1, k, hq, h1, fun _ => ⟨hl, hL⟩, rfl, hk, hI, hr, hE⟩
   | true =>
    have hea : Ea C ops e L q1 q1 := ⟨Nat.le_refl _, hlt, hl, hL⟩
    have hal1 : al q1 = false := by
     cases hc : al q1 with
     | false => rfl
     | true =>
      obtain ⟨p, f1, f2, f3⟩ := hal q1 hc
      rw [h1 p f1 f2] at f3; cases f3
    obtain ⟨O, v, hu, hsl, hbi⟩ := hE.blk q1 hea
    obtain ⟨hB, hn0⟩ := hE.old q1 hea
    obtain ⟨k1, gw, g1, g2, g3, g4, g5⟩ := (hbi hal1).grown hI hu hB
    have hk' : k0.le k1 := ⟨hk.toLe0.trans g2, fun c o hc => g4 c o (hk.unk c o hc) (by rintro rfl; exact hn0 o hc), fun c m hf ho => g5 c m (hk.same c m hf ho)⟩
    suffices hsf : FrRel k1 n (FG ops (xq C ops e (q1 + 1)) (e 0).φ L ops.size) a ∧ Ear C w0 ops e al L (q1 + 1) k0 k1 a cs by
     obtain ⟨q, k', r1, r2, r3, r4, r5, r6, r7, r8⟩ := Hb (a := a) (cs := cs) hal hσ d (q1 + 1) k1 (by omega) (by omega) hk' (fun i hi hli => by
      by_cases hiq : i = q1
      ·subst hiq; exact hL
      ·exact h1 i (by omega) hli) g1 hsf.1 hsf.2
     exact ⟨q, k', r1, r2, r3, r4.trans gw, r5, r6, r7, r8⟩
    refine ⟨?_, ?_⟩
    ·have hm := hr.mono0 g2
     refine ⟨hm.size, fun u => ?_, by rw [Kb]; have := hm.ds; rw [Kb] at this; exact this⟩
     have hx' : xq C ops e (q1 + 1) q1 = (e q1).x := by unfold xq; rw [if_neg (by omega)]
     rcases Sx (ops := ops) (x := xq C ops e (q1 + 1)) (y := xq C ops e q1) (e 0).φ L q1 u (fun i hi => by
       unfold xq
       have : q1 ≤ i ↔ q1 + 1 ≤ i := by omega
       simp only [this]) ops.size with hs | ⟨hs1, hs2⟩
     ·have := hm.slot u
      simp only [Fr.at, hs] at this ⊢
      exact this
     ·rw [hsl u hs1]
      simp only [Fr.at, hs2, hx', Option.getD_some]
      exact g3
    ·refine ⟨fun i h => hE.ear i (up i h), fun i h => ?_, fun i h => hE.old i (up i h), fun i i' h h' => hE.inj i i' (up i h) (up i' h')⟩
     obtain ⟨O', v', f1, f2, f3⟩ := hE.blk i (up i h)
     refine ⟨O', v', g4 _ _ f1 (fun c => ?_), f2, fun h => (f3 h).mono0 g2⟩
     have := hE.inj i q1 (up i h) hea c
     have := h.1
     omega

theorem Vb {P : Option Nat} (hc : Bi C w0 callF) (hT : U8 C ops) (hTr : Pv C callF n ops (Hk (Region.before ops) P) (Fb ops (Region.before ops) P) (Region.before ops) 0 [] [] e) {Q : Exit → Act → World → Prop} {k0 : K} (hg0 : GlobOk C k0)
  (hP : ∀ p, P = some p → ∃ o f args σ1 v σ2, ops[p]? = some o ∧ Ae ops (e p).φ o = some true ∧ isQuiet C o = false ∧ op C (ev C (e p).φ) o (e p).σ = some (.call f args σ1) ∧ callF f args σ1 = some (.pan v, σ2) ∧
   ∀ (k : K) (a : Act) (u : Value), k0.le k → Inv w0 σ2 k → FrRel k n (Hn ops.toList (e p).φ) a → Rel k v u → Q (.panic [{ v := u, recovered := false }]) a k.w)
  (hQ : P = none → ∀ (k : K) (a : Act), k0.le k → Inv w0 (e ops.size).σ k → FrRel k n (e ops.size).φ a → Q .normal a k.w) :
  ∀ (fuel : Nat) (listed : Array Bool) (rem : List Nat) (k : K) (a : Act) (q : Nat) (cs : Nat → Nat), rem.length = fuel → rem.Nodup → listed.size = ops.size → (∀ i, i ∈ rem ↔ i < ops.size ∧ listed.getD i false = false) →
   (∀ p i, i < ops.size → bfr (Region.before ops) p i = true → listed.getD i false = true → listed.getD p false = true) → (∀ p, P = some p → listed.getD p false = false) → k0.le k →
   q ≤ ops.size → (∀ i, i < q → loB C ops e i = true → listed.getD i false = true) → (q < ops.size → loB C ops e q = true ∧ listed.getD q false = false) →
   Inv w0 (e q).σ k → FrRel k n (FG ops (xq C ops e q) (e 0).φ (listed.getD · false) ops.size) a → Ear C w0 ops e (Fb ops (Region.before ops) P) (listed.getD · false) q k0 k a cs → wpAny C.P .any ops Q fuel listed a k.w := by
 have fact : ∀ i, i < ops.size → ∃ o, ops[i]? = some o ∧ Jq C callF n ops (Hk (Region.before ops) P) (Fb ops (Region.before ops) P) e i o := fun i hi => ⟨ops[i], by simp [hi], hTr.fact i _ (Nat.zero_le _) (by simp [hi])⟩
 have hφ : ∀ i, i < ops.size → (e (i + 1)).φ = setO (e i).φ (Cf ops i) (e i).x := fun i hi => by
  obtain ⟨o, ho, hf, _⟩ := fact i hi
  rw [(Sw hf).1]; simp [Cf, ho]
 have hσ : ∀ i, i < ops.size → loB C ops e i = false → (e (i + 1)).σ = (e i).σ := fun i hi hl => by
  obtain ⟨o, ho, _, hf⟩ := fact i hi
  rcases hf with ⟨_, _, h⟩ | ⟨_, _, _, h⟩ | ⟨h1, h2, _⟩ | ⟨_, h⟩ | ⟨_, _, _, _, h⟩
  ·exact h
  ·exact h
  ·exfalso
   have : loB C ops e i = true := De.2 ⟨o, ho, h1, h2⟩
   rw [hl] at this; cases this
  ·exact h
  ·exact h
 have ltP : ∀ p, P = some p → p < ops.size := fun p hp => by
  obtain ⟨o, _, _, _, _, _, ho, _⟩ := hP p hp
  exact (Array.getElem?_eq_some_iff.1 ho).1
 have lt : ∀ {i : Nat} {o : Oper}, ops[i]? = some o → i < ops.size := fun h => (Array.getElem?_eq_some_iff.1 h).1
 have alP : ∀ i, Fb ops (Region.before ops) P i = true → ∃ p, P = some p ∧ p < i ∧ loB C ops e p = true := fun i hi => by
  cases hPc : P with
  | none => rw [hPc] at hi; simp [Fb] at hi
  | some p =>
   rw [hPc] at hi
   simp only [Fb, Bool.and_eq_true, decide_eq_true_eq] at hi
   obtain ⟨o, _, _, _, _, _, ho, hw, hq, _⟩ := hP p hPc
   exact ⟨p, rfl, hi.1.1, De.2 ⟨o, ho, hw, hq⟩⟩
 -- the end
 have fin : ∀ (listed : Array Bool) (k : K) (a : Act) (q : Nat), listed.size = ops.size → (∀ p, P = some p → listed.getD p false = false) → k0.le k → q ≤ ops.size → (q < ops.size → loB C ops e q = true ∧ listed.getD q false = false) → Inv w0 (e q).σ k → FrRel k n (FG ops (xq C ops e q) (e 0).φ (listed.getD · false) ops.size) a →
   Region.ready .any ops listed = [] → Q .normal a k.w := by
  intro listed k a q hsz hnp hk hqN hq2 hI hr hrd
  have all : ∀ i, i < ops.size → listed.getD i false = true := by
   intro i
   induction i using Nat.strongRecOn with
   | _ i ih =>
    intro hi
    cases hL : listed.getD i false with
    | true => rfl
    | false =>
     exfalso
     have : i ∈ Region.ready .any ops listed := by
      refine mem_ready.2 ⟨?_, ops[i], by simp [hi], fun ed he hb => ?_⟩
      ·have hi' : i < listed.size := by omega
       simp [Array.getD_eq_getD_getElem?, hi'] at hL ⊢; exact hL
      ·have hon := hT.on i ops[i] ed (by simp [hi]) he hb
       exact ih _ hon (by omega)
     rw [hrd] at this; cases this
  have hqe : q = ops.size := by
   rcases Nat.lt_or_ge q ops.size with h | h
   ·have := (hq2 h).2
    rw [all q h] at this; cases this
   ·omega
  subst hqe
  have hPn : P = none := by
   cases hPc : P with
   | none => rfl
   | some p => have := hnp p hPc; rw [all p (ltP p hPc)] at this; cases this
  refine hQ hPn k a hk hI (hr.congr (fun t => ?_) ?_)
  ·have := Sy hφ (x := xq C ops e ops.size) (listed.getD · false) ops.size t (fun i hi _ => ⟨fun _ => hi, fun _ => all i hi⟩) (fun i hi _ _ => by unfold xq; rw [if_neg (by omega)]) ops.size (Nat.le_refl _)
   rw [Nat.min_self] at this
   exact this.symm
  ·rw [Kb]
   have : ∀ m, m ≤ ops.size → (e m).φ.ds = (e 0).φ.ds := by
    intro m
    induction m with
    | zero => intro _; rfl
    | succ m ih => intro hm; rw [hφ m (by omega), Kn, ih (by omega)]
   exact this _ (Nat.le_refl _)
 intro fuel
 induction fuel with
 | zero =>
  intro listed rem k a q cs hlen hnd hsz hrem hDC hnp hk hqN hq1 hq2 hI hr hE
  have hrd : Region.ready .any ops listed = [] := by
   refine List.eq_nil_iff_forall_not_mem.2 (fun i hi => ?_)
   obtain ⟨h1, o, ho, _⟩ := mem_ready.1 hi
   have hi' := lt ho
   have : i ∈ rem := (hrem i).2 ⟨hi', by
    have hi2 : i < listed.size := by omega
    simp [Array.getD_eq_getD_getElem?, hi2] at h1 ⊢; exact h1⟩
   rw [List.eq_nil_of_length_eq_zero hlen] at this; cases this
  exact ⟨hrd, fin listed k a q hsz hnp hk hqN hq2 hI hr hrd⟩
 | succ fuel ih =>
  intro listed rem k a q cs hlen hnd hsz hrem hDC hnp hk hqN hq1 hq2 hI hr hE
  refine ⟨fin listed k a q hsz hnp hk hqN hq2 hI hr, fun j hj => ?_⟩
  obtain ⟨hj1, o, ho, hedge⟩ := mem_ready.1 hj
  have hjN := lt ho
  have hjl : j < listed.size := by omega
  have hLj : listed.getD j false = false := by
   simp [Array.getD_eq_getD_getElem?, hjl] at hj1 ⊢; exact hj1
  -- what is ahead of j is done; what is behind j is not
  have ahead : ∀ p, bfr (Region.before ops) p j = true → listed.getD p false = true := by
   intro p hp
   obtain ⟨o', ho', ed, h1, h2, h3⟩ := Ir hT.on hp
   rw [ho] at ho'; cases ho'
   have h4 := hedge ed h1 h2
   rcases h3 with rfl | h3
   ·exact h4
   ·exact hDC p ed.on (Nat.lt_trans (hT.on j o ed ho h1 h2) hjN) h3 h4
  have behind : ∀ p, p < ops.size → bfr (Region.before ops) j p = true → listed.getD p false = false := by
   intro p hp hb
   cases h : listed.getD p false with
   | false => rfl
   | true => rw [hDC j p hp hb h] at hLj; cases hLj
  have order : ∀ i, i < ops.size → i ≠ j → (bfr (Region.before ops) i j = true ∨ bfr (Region.before ops) j i = true) → (listed.getD i false = true ↔ i < j) := by
   intro i hi hne hb
   rcases hb with hb | hb
   ·exact ⟨fun _ => Oh hT.on j i hb, fun _ => ahead i hb⟩
   ·have := Oh hT.on i j hb
    exact ⟨fun c => (by rw [behind i hi hb] at c; cases c), fun c => by omega⟩
  have self : (listed.getD j false = true ↔ j < j) := ⟨fun c => (by rw [hLj] at c; cases c), fun c => by omega⟩
  have slots : ∀ t, t ∈ Cd ops o → ∀ i, i < ops.size → Cf ops i = some t → (listed.getD i false = true ↔ i < j) := by
   intro t ht i hi hd
   by_cases hij : i = j
   ·subst hij; exact self
   ·have hoi : ops[i]? = some ops[i] := by simp [hi]
    refine order i hi hij (hT.slot i j ops[i] o t hij hoi ho ?_ ht)
    simpa [Cf, hi] using hd
  -- an early allocation's slot is not looked at
  have clash : ∀ i t, Ea C ops e (listed.getD · false) q i → Cf ops i = some t → t ∈ Cd ops o → False := by
   intro i t hi hd ht
   have hL := hi.2.2.2
   simp only at hL
   have hij := (slots t ht i hi.2.1 hd).1 hL
   have hqN' : q < ops.size := Nat.lt_of_le_of_lt hi.1 hi.2.1
   have hqi : q < i := by
    rcases Nat.lt_or_eq_of_le hi.1 with h | h
    ·exact h
    ·rw [← h, (hq2 hqN').2] at hL; cases hL
   have hoi : ops[i]? = some ops[i] := by simp [hi.2.1]
   obtain ⟨oq, f1, _, f3⟩ := De.1 (hq2 hqN').1
   have := ahead q ((hE.ear i hi).use j o ops[i] t hij ho hoi (by simpa [Cf, hi.2.1] using hd) ht q oq hqi f1 f3)
   rw [(hq2 hqN').2] at this; cases this
  have hat : ∀ t, t ∈ Cd ops o → (FG ops (xq C ops e q) (e 0).φ (listed.getD · false) ops.size).s.get t = (e j).φ.s.get t := fun t ht => by
   have := Sy hφ (x := xq C ops e q) (listed.getD · false) j t (slots t ht) (fun i hi hd hL => by
    unfold xq
    refine if_neg (fun hc => clash i t ⟨hc.2, hi, hc.1, hL⟩ hd ht)) ops.size (Nat.le_refl _)
   rwa [Nat.min_eq_right (Nat.le_of_lt hjN)] at this
  have hwc : Ae ops (FG ops (xq C ops e q) (e 0).φ (listed.getD · false) ops.size) o = Ae ops (e j).φ o := Ml hat
  have hev := Va (C := C) hat
  have hdst : ∀ t, o.dst = some t → t ∈ Cd ops o := fun t h => by
   unfold Cd
   refine List.mem_append_left _ (List.mem_append_right _ ?_)
   rw [h]; simp
  have hdj : Cf ops j = o.dst := by simp [Cf, ho]
  -- the list with j
  have hL' : (fun i => (listed.setIfInBounds j true).getD i false) = (fun i => if i = j then true else listed.getD i false) := by
   funext i
   by_cases hij : i = j
   ·subst hij; simp [Array.getD_eq_getD_getElem?, hjl]
   ·rw [if_neg hij]
    have : j ≠ i := fun e => hij e.symm
    simp [Array.getD_eq_getD_getElem?, this]
  have hL'' : ∀ i, (listed.setIfInBounds j true).getD i false = if i = j then true else listed.getD i false := fun i => congrFun hL' i
  have hLo : ∀ i, i ≠ j → (listed.setIfInBounds j true).getD i false = true → listed.getD i false = true := fun i hij h => by rw [hL'' i, if_neg hij] at h; exact h
  have hLu : ∀ i, listed.getD i false = true → (listed.setIfInBounds j true).getD i false = true := fun i h => by
   rw [hL'' i]; split
   ·rfl
   ·exact h
  have hfr : ∀ q1, (∀ i, listed.getD i false = true → xq C ops e q1 i = xq C ops e q i) → ∀ t, (FG ops (xq C ops e q1) (e 0).φ (fun i => (listed.setIfInBounds j true).getD i false) ops.size).s.get t = (setO (FG ops (xq C ops e q) (e 0).φ (listed.getD · false) ops.size) o.dst (xq C ops e q1 j)).s.get t := by
   intro q1 hx t
   rw [hL', U9 (e 0).φ (listed.getD · false) j t hLj (fun i hi hL hd hdj' => ?_), Dm]
   ·rw [hdj, Rl (x := xq C ops e q1) (y := xq C ops e q) (e 0).φ (listed.getD · false) ops.size (fun i _ hL => hx i hL)]
    simp [hjN]
   ·have hiN : i < ops.size := by
     rcases Nat.lt_or_ge i ops.size with h | h
     ·exact h
     ·simp [Cf, Array.getElem?_eq_none h] at hd
    have := (slots t (hdst t (by rw [← hdj]; exact hdj')) i hiN hd).1 hL
    omega
  have DC' : ∀ p i, i < ops.size → bfr (Region.before ops) p i = true → (listed.setIfInBounds j true).getD i false = true → (listed.setIfInBounds j true).getD p false = true := by
   intro p i hi hb hL
   rw [hL'' p]
   rw [hL'' i] at hL
   by_cases hpj : p = j
   ·simp [hpj]
   ·rw [if_neg hpj]
    by_cases hij : i = j
    ·subst hij; exact ahead p hb
    ·rw [if_neg hij] at hL
     exact hDC p i hi hb hL
  -- the call that panics
  by_cases hjP : P = some j
  ·obtain ⟨o', f, args, σ1, v, σ2, ho', hw', hq', hop, hcf, hfin⟩ := hP j hjP
   rw [ho] at ho'; cases ho'
   unfold wpOp
   rw [ho]
   simp only
   rw [B3 hr (hwc.trans hw')]
   simp only [if_true]
   refine Or.inl ?_
   have hl : loB C ops e j = true := De.2 ⟨o, ho, hw', hq'⟩
   have hqj : q ≤ j := by
    rcases Nat.lt_or_ge j q with h | h
    ·rw [hq1 j h hl] at hLj; cases hLj
    ·exact h
   have hqe : q = j := by
    rcases Nat.lt_or_eq_of_le hqj with hqj | hqj
    ·exfalso
     obtain ⟨f1, f2⟩ := hq2 (by omega)
     obtain ⟨oq, p1, p2, p3⟩ := De.1 f1
     have hET : Jp C ops j := by
      rcases hT.loud q j oq o (by omega) p1 ho p3 hq' with (hb | hb) | ⟨_, hb⟩ | ⟨hb, _⟩
      ·rw [ahead q hb] at f2; cases f2
      ·have := Oh hT.on q j hb; omega
      ·exact hb
      ·omega
     obtain ⟨o', ho', ht⟩ := hET.alloc
     rw [ho] at ho'; cases ho'
     rw [← Dr hev] at hop
     obtain ⟨_, _, _, _, g1, _⟩ := Is k (D3 (hg0.mono hk) hr) ht hop
     cases g1
    ·exact hqj
   subst hqe
   rw [← Dr hev] at hop
   refine Di hc hI (hg0.mono hk) hr hop ⟨.pan v, _, hcf, fun k' u g1 g2 g3 g4 => hfin k' a u (hk.trans g1) g2 ?_ g4⟩
   refine ⟨g3.size, fun t => ?_, ?_⟩
   ·rcases Py ops.toList (e q).φ t with hj | ⟨hj, hnd⟩
    ·simp only [Fr.at, hj, Option.getD_some]; exact .junk
    ·have hs := g3.slot t
     have hno : ∀ i, i < ops.size → Cf ops i ≠ some t := fun i hi hd => hnd ops[i] (Array.getElem_mem_toList hi) (by simpa [Cf, hi] using hd)
     have h1 := Sy hφ (x := xq C ops e q) (listed.getD · false) q t (fun i hi hd => absurd hd (hno i hi)) (fun i hi hd _ => absurd hd (hno i hi)) ops.size (Nat.le_refl _)
     rw [Nat.min_eq_right (Nat.le_of_lt hjN)] at h1
     simp only [Fr.at, hj, ← h1] at hs ⊢
     exact hs
   ·have hd1 := g3.ds
    rw [Kb] at hd1
    have hds : ∀ m, m ≤ ops.size → (e m).φ.ds = (e 0).φ.ds := by
     intro m
     induction m with
     | zero => intro _; rfl
     | succ m ih => intro hm; rw [hφ m (by omega), Kn, ih (by omega)]
    rw [Px, hds q hqN]; exact hd1
  have hnp' : ∀ p, P = some p → (listed.setIfInBounds j true).getD p false = false := by
   intro p hp
   rw [hL'' p, if_neg (by rintro rfl; exact hjP hp)]
   exact hnp p hp
  have hdd' : ∀ i, Hk (Region.before ops) P i = true → (listed.setIfInBounds j true).getD i false = false := by
   intro i hi
   cases hPc : P with
   | none => rw [hPc] at hi; simp [Hk] at hi
   | some p =>
    rw [hPc] at hi
    simp only [Hk, Bool.or_eq_true, decide_eq_true_eq] at hi
    rcases hi with rfl | hi
    ·exact hnp' _ hPc
    ·cases hc : (listed.setIfInBounds j true).getD i false with
     | false => rfl
     | true =>
      have hiN : i < ops.size := by
       rcases Nat.lt_or_ge i ops.size with h | h
       ·exact h
       ·rw [Array.getD_eq_getD_getElem?, Array.getElem?_eq_none (by simp [hsz]; exact h)] at hc; cases hc
      have := DC' p i hiN hi hc
      rw [hnp' p hPc] at this; cases this
  have hddj : Hk (Region.before ops) P j = false := by
   cases hc : Hk (Region.before ops) P j with
   | false => rfl
   | true => have := hdd' j hc; rw [hL'' j, if_pos rfl] at this; cases this
  have hal' : ∀ i, Fb ops (Region.before ops) P i = true → ∃ p, p < i ∧ loB C ops e p = true ∧ (listed.setIfInBounds j true).getD p false = false := fun i hi => by
   obtain ⟨p, f1, f2, f3⟩ := alP i hi
   exact ⟨p, f2, f3, hnp' p f1⟩
  have alq : ∀ i, i ≤ q → Fb ops (Region.before ops) P i = false := fun i hi => by
   cases hc : Fb ops (Region.before ops) P i with
   | false => rfl
   | true =>
    obtain ⟨p, f1, f2, f3⟩ := alP i hc
    have := hq1 p (by omega) f3
    rw [hnp p f1] at this; cases this
  have next : ∀ (k2 : K) (a2 : Act) (q1 : Nat) (cs' : Nat → Nat), q1 ≤ ops.size → (∀ i, listed.getD i false = true → xq C ops e q1 i = xq C ops e q i) → (∀ i, i < q1 → loB C ops e i = true → (listed.setIfInBounds j true).getD i false = true) →
    k0.le k2 → Inv w0 (e q1).σ k2 → FrRel k2 n (setO (FG ops (xq C ops e q) (e 0).φ (listed.getD · false) ops.size) o.dst (xq C ops e q1 j)) a2 → Ear C w0 ops e (Fb ops (Region.before ops) P) (fun i => (listed.setIfInBounds j true).getD i false) q1 k0 k2 a2 cs' →
    wpAny C.P .any ops Q fuel (listed.setIfInBounds j true) a2 k2.w := by
   intro k2 a2 q1 cs' hq1N hx hq1' h1 h2 h3 h4
   have hjm : j ∈ rem := (hrem j).2 ⟨hjN, hLj⟩
   obtain ⟨q', k', r1, r2, r3, r4, r5, r6, r7, r8⟩ := Hb (L := fun i => (listed.setIfInBounds j true).getD i false) hal' hσ (ops.size - q1) q1 k2 rfl hq1N h1 hq1' h2 (h3.congr (hfr q1 hx) (by rw [Kb, Kn, Kb])) h4
   rw [← r4]
   refine ih (listed.setIfInBounds j true) (rem.erase j) k' a2 q' cs' (by rw [List.length_erase_of_mem hjm]; omega) (hnd.erase _) (by simp [hsz]) (fun i => ?_) DC' hnp' r5 r1 r2 r3 r6 r7 r8
   rw [hnd.mem_erase_iff, hrem i, hL'' i]
   by_cases hij : i = j
   ·subst hij; simp
   ·simp [hij]
  -- what was allocated early stays
  have keep : ∀ (k2 : K) (a2 : Act) (q1 : Nat), k.le k2 → q ≤ q1 → (loB C ops e j = true → j < q1) → (∀ t, o.dst ≠ some t → a2.tmps.getD t undef = a.tmps.getD t undef) → Ear C w0 ops e (Fb ops (Region.before ops) P) (fun i => (listed.setIfInBounds j true).getD i false) q1 k0 k2 a2 cs := by
   intro k2 a2 q1 hle hq hj' hs
   have hea : ∀ i, Ea C ops e (fun i => (listed.setIfInBounds j true).getD i false) q1 i → Ea C ops e (listed.getD · false) q i := by
    rintro i ⟨g1, g2, g3, g4⟩
    refine ⟨by omega, g2, g3, hLo i ?_ g4⟩
    rintro rfl
    have := hj' g3; omega
   refine ⟨fun i h => hE.ear i (hea i h), fun i h => ?_, fun i h => hE.old i (hea i h), fun i i' h h' => hE.inj i i' (hea i h) (hea i' h')⟩
   obtain ⟨O, v, f1, f2, f3⟩ := hE.blk i (hea i h)
   exact ⟨O, v, hle.unk _ _ f1, fun t h1 => by rw [hs t (fun hd => clash i t (hea i h) h1 (hdst t hd))]; exact f2 t h1, fun h => (f3 h).mono0 hle.toLe0⟩
  obtain ⟨hput, hf⟩ := hTr.fact j o (Nat.zero_le _) ho
  have hput' : ∀ ψ : Fr, ∀ y : A, Bb n ψ o.dst y = some (setO ψ o.dst y) := (Sw hput).2
  unfold wpOp
  rw [ho]
  simp only
  have hf : (Ae ops (e j).φ o = some false ∧ (e j).x = und ∧ (e (j + 1)).σ = (e j).σ) ∨ (Ae ops (e j).φ o = some true ∧ isQuiet C o = true ∧ opQ C (ev C (e j).φ) o (e j).σ = some (e j).x ∧ (e (j + 1)).σ = (e j).σ) ∨
    (Ae ops (e j).φ o = some true ∧ isQuiet C o = false ∧ (A5 C callF (e j).φ o (e j).σ = some ((e j).x, (e (j + 1)).σ) ∨ (Fb ops (Region.before ops) P j = true ∧ Jc C o = true))) := by
   rcases hf with h | h | ⟨h1, h2, h3⟩ | ⟨h1, _⟩ | ⟨h1, h2, h3, h4, _⟩
   ·exact .inl h
   ·exact .inr (.inl h)
   ·exact .inr (.inr ⟨h1, h2, .inl h3⟩)
   ·rw [hddj] at h1; cases h1
   ·exact .inr (.inr ⟨h2, h3, .inr ⟨h1, h4⟩⟩)
  rcases hf with ⟨h1, h2, _⟩ | ⟨h1, h2, h3, _⟩ | ⟨h1, h2, h3⟩
  ·rw [B3 hr (hwc.trans h1)]
   simp only [Bool.false_eq_true, if_false]
   have hl : loB C ops e j = false := by simp [loB, ho, h1]
   have hxj : xq C ops e q j = und := by unfold xq; rw [if_neg (by rw [hl]; simp)]; exact h2
   refine next k _ q cs hqN (fun _ _ => rfl) (fun i hi hli => hLu i (hq1 i hi hli)) hk hI (hr.put Er (by rw [hxj]; exact hput' _ _)) (keep k _ q (K.le.refl k) (Nat.le_refl _) (fun h => by rw [hl] at h; cases h) (Fa _ _ _))
  ·rw [B3 hr (hwc.trans h1)]
   simp only [if_true]
   refine Or.inl ?_
   have hl : loB C ops e j = false := by simp [loB, ho, h2]
   have hxj : xq C ops e q j = (e j).x := by unfold xq; rw [if_neg (by rw [hl]; simp)]
   have hsame : ∀ σ', (σ' = (e j).σ ∨ sameA C (e j).φ o σ' (e j).x = true) → opQ C (ev C (e j).φ) o σ' = some (e j).x := by
    intro σ' h
    rcases h with rfl | h
    ·exact h3
    ·unfold sameA at h
     rw [Bool.or_eq_true] at h
     rcases h with h | h
     ·exact U6 h h3
     ·split at h
      ·rename_i y hy; rw [hy, W9 h]
      ·cases h
   have hst : (e q).σ = (e j).σ ∨ sameA C (e j).φ o (e q).σ (e j).x = true := by
    rcases Nat.lt_trichotomy q j with hqj | hqj | hqj
    ·right
     obtain ⟨f1, f2⟩ := hq2 (by omega)
     rcases hTr.pastI j o (Nat.zero_le _) hddj ho ⟨h1, h2⟩ q (Nat.zero_le _) hqj (alq q (Nat.le_refl _)) (De.1 f1) with h | h
     ·rw [ahead q h] at f2; cases f2
     ·exact h
    ·rw [hqj]; exact .inl rfl
    ·rcases Mw hσ j (q - j) (by omega) with h | ⟨p, g1, g2, g3, g4⟩
     ·rw [show j + (q - j) = q by omega] at h
      exact .inl h
     ·right
      rw [show j + (q - j) = q by omega] at g4
      rw [g4]
      have hpj : j < p := by
       rcases Nat.lt_or_ge j p with h | h
       ·exact h
       ·have : p = j := by omega
        subst this; rw [hl] at g3; cases g3
      have hddp : Hk (Region.before ops) P p = false := by
       cases hc : Hk (Region.before ops) P p with
       | false => rfl
       | true =>
        have h5 := hdd' p hc
        rw [hLu p (hq1 p (by omega) g3)] at h5; cases h5
      rcases hTr.pendI p (Nat.zero_le _) hddp (alq p (by omega)) (De.1 g3) j o (Nat.zero_le _) hpj hddj ho ⟨h1, h2⟩ with h | h
      ·have c := hq1 p (by omega) g3
       rw [behind p (by omega) h] at c; cases c
      ·exact h
   have hop : op C (ev C (FG ops (xq C ops e q) (e 0).φ (listed.getD · false) ops.size)) o (e q).σ = some (.val (e j).x (e q).σ) := by
    rw [Dr hev]
    exact Acg (hsame _ hst) h2
   refine Di hc hI (hg0.mono hk) hr hop ⟨_, hput' _ _, fun k2 a2 g1 g2 g3 g4 => next k2 a2 q cs hqN (fun _ _ => rfl) (fun i hi hli => hLu i (hq1 i hi hli)) (hk.trans g1) g2 (by rw [hxj]; exact g3) (keep k2 a2 q g1 (Nat.le_refl _) (fun h => by rw [hl] at h; cases h) g4)⟩
  ·rw [B3 hr (hwc.trans h1)]
   simp only [if_true]
   refine Or.inl ?_
   have hl : loB C ops e j = true := De.2 ⟨o, ho, h1, h2⟩
   have hqj : q ≤ j := by
    rcases Nat.lt_or_ge j q with h | h
    ·rw [hq1 j h hl] at hLj; cases hLj
    ·exact h
   rcases Nat.lt_or_eq_of_le hqj with hqj | hqj
   ·-- an early allocation
    obtain ⟨f1, f2⟩ := hq2 (by omega)
    obtain ⟨oq, p1, p2, p3⟩ := De.1 f1
    have hET : Jp C ops j := by
     rcases hT.loud q j oq o (by omega) p1 ho p3 h2 with (hb | hb) | ⟨_, hb⟩ | ⟨hb, _⟩
     ·rw [ahead q hb] at f2; cases f2
     ·have := Oh hT.on q j hb; omega
     ·exact hb
     ·omega
    obtain ⟨o', ho', ht⟩ := hET.alloc
    rw [ho] at ho'; cases ho'
    have hρ := D3 (C := C) (hg0.mono hk) hr
    obtain ⟨O, v, hrun, hbi⟩ : ∃ O v, (execOp a.eval o).run C.P k.w = .ok (.value v) (k.w.alloc O) ∧ (Fb ops (Region.before ops) P j = false → Birth k (e j).x (e j).σ (e (j + 1)).σ O k.w.heap.size v) := by
     rcases h3 with h3 | ⟨h3, h4⟩
     ·unfold A5 at h3
      rw [← Dr hev] at h3
      obtain ⟨O, v, g1, g2⟩ := Xa (callF := callF) ht k a.eval hρ h3
      exact ⟨O, v, g1, fun _ => g2⟩
     ·obtain ⟨r, hr'⟩ := T8 (C := C) (ρ := ev C (FG ops (xq C ops e q) (e 0).φ (listed.getD · false) ops.size)) (e j).σ h4
      obtain ⟨O, v, _, _, _, g1, _⟩ := Is k hρ ht hr'
      exact ⟨O, v, g1, fun c => by rw [h3] at c; cases c⟩
    obtain ⟨g1, g2, g3⟩ := hI.hide O
    have hw : (k.hide O).w = k.w.alloc O := rfl
    unfold Oper.wp
    rw [hrun]
    show wpAny C.P .any ops Q fuel (listed.setIfInBounds j true) (a.put o.dst v) (k.w.alloc O)
    rw [← hw]
    have hxj : xq C ops e q j = .junk := by unfold xq; rw [if_pos ⟨hl, by omega⟩]
    have hsz' : ∀ i, Ea C ops e (listed.getD · false) q i → cs i < k.w.heap.size := by
     intro i hi
     obtain ⟨_, _, r1, _⟩ := hE.blk i hi
     exact Ad r1.1
    refine next (k.hide O) _ q (fun i => if i = j then k.w.heap.size else cs i) hqN (fun _ _ => rfl) (fun i hi hli => hLu i (hq1 i hi hli)) (hk.trans g2) g1 ((hr.mono g2).put (x := xq C ops e q j) (by rw [hxj]; exact .junk) (hput' _ _)) ?_
    have hea : ∀ i, i ≠ j → Ea C ops e (fun i => (listed.setIfInBounds j true).getD i false) q i → Ea C ops e (listed.getD · false) q i := fun i hij ⟨b1, b2, b3, b4⟩ => ⟨b1, b2, b3, hLo i hij b4⟩
    refine ⟨fun i h => ?_, fun i h => ?_, fun i h => ?_, fun i i' h h' b1 => ?_⟩
    ·by_cases hij : i = j
     ·subst hij; exact hET
     ·exact hE.ear i (hea i hij h)
    ·by_cases hij : i = j
     ·subst hij
      simp only [if_true]
      refine ⟨O, v, g3, fun t2 b1 => ?_, fun h => (hbi h).mono0 g2.toLe0⟩
      rw [hdj] at b1
      have hsz2 : t2 < a.tmps.size := by
       rw [hr.size]
       unfold Bb at hput
       rw [b1] at hput
       simp only at hput
       split at hput
       ·assumption
       ·cases hput
      simp [Act.put, b1, Array.getD_eq_getD_getElem?, hsz2]
     ·simp only [if_neg hij]
      obtain ⟨O2, v2, r1, r2, r3⟩ := hE.blk i (hea i hij h)
      refine ⟨O2, v2, g2.unk _ _ r1, fun t2 b1 => ?_, fun h => (r3 h).mono0 g2.toLe0⟩
      rw [Fa _ _ _ t2 (fun hd => clash i t2 (hea i hij h) b1 (hdst t2 hd))]
      exact r2 t2 b1
    ·by_cases hij : i = j
     ·simp only [if_pos hij]
      refine ⟨hI.below.size, fun o2 hu => ?_⟩
      have := Ad (hk.unk _ _ hu).1
      exact Nat.lt_irrefl _ this
     ·simp only [if_neg hij]
      exact hE.old i (hea i hij h)
    ·by_cases hij : i = j <;> by_cases hij' : i' = j
     ·omega
     ·simp only [if_pos hij, if_neg hij'] at b1
      have := hsz' i' (hea i' hij' h'); omega
     ·simp only [if_neg hij, if_pos hij'] at b1
      have := hsz' i (hea i hij h); omega
     ·simp only [if_neg hij, if_neg hij'] at b1
      exact hE.inj i i' (hea i hij h) (hea i' hij' h') b1
   ·subst hqj
    have hxj : xq C ops e (q + 1) q = (e q).x := by unfold xq; rw [if_neg (by omega)]
    have next' : ∀ (k2 : K) (a2 : Act), k.le k2 → Inv w0 (e (q + 1)).σ k2 → FrRel k2 n (setO (FG ops (xq C ops e q) (e 0).φ (listed.getD · false) ops.size) o.dst (e q).x) a2 → (∀ t, o.dst ≠ some t → a2.tmps.getD t undef = a.tmps.getD t undef) → wpAny C.P .any ops Q fuel (listed.setIfInBounds q true) a2 k2.w := by
     intro k2 a2 g1 g2 g3 g4
     refine next k2 a2 (q + 1) cs (by omega) (fun i hL => ?_) (fun i hi hli => ?_) (hk.trans g1) g2 (by rw [hxj]; exact g3) (keep k2 a2 (q + 1) g1 (by omega) (fun _ => by omega) g4)
     ·unfold xq
      have : i ≠ q := by rintro rfl; rw [hLj] at hL; cases hL
      have : q ≤ i ↔ q + 1 ≤ i := by omega
      simp only [this]
     ·by_cases hiq : i = q
      ·rw [hL'' i, if_pos hiq]
      ·exact hLu i (hq1 i (by omega) hli)
    have h3 := h3.resolve_right (fun c => by rw [alq q (Nat.le_refl _)] at c; cases c.1)
    unfold A5 at h3
    split at h3
    ·rename_i x σ' hop
     cases h3
     rw [← Dr hev] at hop
     exact Di hc hI (hg0.mono hk) hr hop ⟨_, hput' _ _, fun k2 a2 g1 g2 g3 g4 => next' k2 a2 g1 g2 g3 g4⟩
    ·rename_i σ' hop
     rw [← Dr hev] at hop
     have hx : (e q).x = und := (Prod.mk.inj (Option.some.inj h3)).1.symm
     have hs' : (e (q + 1)).σ = σ' := (Prod.mk.inj (Option.some.inj h3)).2.symm
     rw [hs'] at next'
     rw [hx] at next'
     exact Di hc hI (hg0.mono hk) hr hop ⟨_, hput' _ _, fun k2 a2 g1 g2 g3 g4 => next' k2 a2 g1 g2 g3 g4⟩
    ·rename_i f args σ' hop
     rw [← Dr hev] at hop
     split at h3
     ·rename_i x σ'' hcf
      have hx : x = (e q).x := (Prod.mk.inj (Option.some.inj h3)).1
      have hs' : σ'' = (e (q + 1)).σ := (Prod.mk.inj (Option.some.inj h3)).2
      subst hx; subst hs'
      exact Di hc hI (hg0.mono hk) hr hop ⟨.ret (e q).x, _, hcf, _, hput' _ _, fun k2 a2 g1 g2 g3 g4 => next' k2 a2 g1 g2 g3 g4⟩
     ·cases h3
    ·cases h3

theorem Oi (hc : Bi C w0 callF) {φ : Fr} {σ : St} {k : K} {a : Act} {r : X × Fr × St} {Q : Exit → Act → World → Prop} (hd : C9 C ops (Region.before ops) = true) (h : B9 C callF n ops (Region.before ops) ops.toList 0 φ σ [] [] = some r)
  (hI : Inv w0 σ k) (hg : GlobOk C k) (hr : FrRel k n φ a) (hQ : ∀ e a' w', Ends w0 k n r e a' w' → Q e a' w') : wpAny C.P .any ops Q ops.size (Array.replicate ops.size false) a (k.wd k.w.drew).w := by
 have hT := Ach hd
 obtain ⟨P, e, g1, g2, g3, g5, g4⟩ := Eu (Region.before ops) ops.toList 0 φ σ [] [] r (by simp) h
 obtain ⟨hI', hk⟩ := hI.drew
 have hfalse : ∀ i, (Array.replicate ops.size false).getD i false = false := fun i => by
  rw [Array.getD_eq_getD_getElem?, Array.getElem?_replicate]; split <;> rfl
 have hF : ∀ x m, FG ops x (e 0).φ ((Array.replicate ops.size false).getD · false) m = (e 0).φ := by
  intro x m
  induction m with
  | zero => rfl
  | succ m ih => unfold FG; rw [if_neg (by simp [hfalse])]; exact ih
 have fact : ∀ i o, ops[i]? = some o → Jq C callF n ops (Hk (Region.before ops) P) (Fb ops (Region.before ops) P) e i o := fun i o h => g3.fact i o (Nat.zero_le _) h
 have hσ : ∀ i, i < ops.size → loB C ops e i = false → (e (i + 1)).σ = (e i).σ := fun i hi hl => by
  obtain ⟨_, hf⟩ := fact i ops[i] (by simp [hi])
  rcases hf with ⟨_, _, h⟩ | ⟨_, _, _, h⟩ | ⟨h1, h2, _⟩ | ⟨_, h⟩ | ⟨_, _, _, _, h⟩
  ·exact h
  ·exact h
  ·exfalso
   have : loB C ops e i = true := De.2 ⟨ops[i], by simp [hi], h1, h2⟩
   rw [hl] at this; cases this
  ·exact h
  ·exact h
 have hE0 : ∀ i, ¬ Ea C ops e ((Array.replicate ops.size false).getD · false) 0 i := fun i h => by have := h.2.2.2; simp only [hfalse] at this; cases this
 obtain ⟨q, k', r1, r2, r3, r4, r5, r6, r7, r8⟩ := Hb (w0 := w0) (n := n) (L := ((Array.replicate ops.size false).getD · false)) (cs := fun _ => 0) (k0 := k.wd k.w.drew) (a := a) (al := Fb ops (Region.before ops) P) (fun i hi => by
  cases hPc : P with
  | none => rw [hPc] at hi; simp [Fb] at hi
  | some p =>
   rw [hPc] at hi g4
   simp only [Fb, Bool.and_eq_true, decide_eq_true_eq] at hi
   obtain ⟨o, _, _, _, _, _, q1, q2, q3, _⟩ := g4
   exact ⟨p, hi.1.1, De.2 ⟨o, q1, q2, q3⟩, hfalse p⟩) hσ ops.size 0 (k.wd k.w.drew) rfl (Nat.zero_le _) (K.le.refl _) (fun i hi => by omega) (by rw [g2]; exact hI') (by rw [hF, g1]; exact hr.mono hk) ⟨fun i h => absurd h (hE0 i), fun i h => absurd h (hE0 i), fun i h => absurd h (hE0 i), fun i _ h => absurd h (hE0 i)⟩
 rw [← r4]
 refine Vb (k0 := k.wd k.w.drew) hc hT g3 (hg.mono hk) (fun p hp => ?_) (fun hPn k' a' h1 h2 h3 => hQ _ _ _ ?_) ops.size _ (List.range ops.size) k' a q _ (by simp) List.nodup_range (by simp) (fun i => by simp [hfalse, List.mem_range]) (fun p i hi hb hL => by rw [hfalse] at hL; cases hL) (fun p _ => hfalse p) r5 r1 r2 r3 r6 r7 r8
 ·subst hp
  obtain ⟨o, f, args, σ1, v, σ2, q1, q2, q3, q4, q5, q6⟩ := g4
  refine ⟨o, f, args, σ1, v, σ2, q1, q2, q3, q4, q5, fun k' a' u h1 h2 h3 h4 => hQ _ _ _ ?_⟩
  rw [q6]
  exact ⟨u, k', rfl, rfl, hk.trans h1, h2, h3, h4⟩
 ·subst hPn
  rw [show r = _ from g4]
  simp only [Nat.zero_add, Array.length_toList]
  exact ⟨rfl, k', rfl, hk.trans h1, h2, h3⟩

end
end Go.DM
namespace Go.DM
open Go Go.RowKit

def Qn (N : Act → World → Prop) (Q : Exit → Act → World → Prop) : Exit → Act → World → Prop
 | .normal, a, w => N a w
 | e, a, w => Q e a w
theorem Vc {P : Program} {o : Oper} {a : Act} {w : World} {K K' N : Act → World → Prop} {Q : Exit → Act → World → Prop} (h : ∀ a w, K a w → K' a w) (hh : o.wp P a w K (Qn N Q)) : o.wp P a w K' Q := by
 unfold Oper.wp at *
 generalize (execOp a.eval o).run P w = r at *
 cases r with
 | ok n w' =>
  cases n <;> simp only [Oper.upon] at hh ⊢ <;>
   first
    | exact h _ _ hh
    | exact Calls.mono hh (fun e w'' he => by cases e <;> first | exact h _ _ he | exact he)
    | exact Rows.mono hh (fun _ _ he => h _ _ he)
 | halt x w' => cases x <;> simp only [Oper.upon] at hh ⊢ <;> exact hh

section
variable {P : Program} {ops : Array Oper} {m : Nat} {N : Act → World → Prop} {Q : Exit → Act → World → Prop}
def Rm (ops : Array Oper) (listed : Array Bool) : Prop := ∀ p i, i < ops.size → bfr (Region.before ops) p i = true → listed.getD i false = true → listed.getD p false = true
theorem F3 {listed : Array Bool} {j : Nat} (hon : ∀ j o e, ops[j]? = some o → e ∈ o.after → Region.binds .any e = true → e.on < j) (hD : Rm ops listed) (hj : j ∈ Region.ready .any ops listed) : ∀ p, bfr (Region.before ops) p j = true → listed.getD p false = true := by
 intro p hp
 obtain ⟨_, o, ho, hedge⟩ := mem_ready.1 hj
 obtain ⟨o', ho', ed, h1, h2, h3⟩ := Ir hon hp
 rw [ho] at ho'; cases ho'
 have h4 := hedge ed h1 h2
 rcases h3 with rfl | h3
 ·exact h4
 ·have := hon j o ed ho h1 h2
  have hjN := (Array.getElem?_eq_some_iff.1 ho).1
  exact hD p ed.on (by omega) h3 h4
theorem Fc {listed : Array Bool} {j : Nat} (hsz : listed.size = ops.size) (hj : j ∈ Region.ready .any ops listed) : listed.getD j false = false ∧ j < ops.size := by
 obtain ⟨h1, o, ho, _⟩ := mem_ready.1 hj
 have hjN := (Array.getElem?_eq_some_iff.1 ho).1
 have hjl : j < listed.size := by omega
 refine ⟨?_, hjN⟩
 simp [Array.getD_eq_getD_getElem?, hjl] at h1 ⊢; exact h1
theorem H0 {listed : Array Bool} (hon : ∀ j o e, ops[j]? = some o → e ∈ o.after → Region.binds .any e = true → e.on < j) (hsz : listed.size = ops.size) (hrd : Region.ready .any ops listed = []) : ∀ i, i < ops.size → listed.getD i false = true := by
 intro i
 induction i using Nat.strongRecOn with
 | _ i ih =>
  intro hi
  cases hL : listed.getD i false with
  | true => rfl
  | false =>
   exfalso
   have : i ∈ Region.ready .any ops listed := by
    refine mem_ready.2 ⟨?_, ops[i], by simp [hi], fun ed he hb => ?_⟩
    ·have hi' : i < listed.size := by omega
     simp [Array.getD_eq_getD_getElem?, hi'] at hL ⊢; exact hL
    ·have := hon i ops[i] ed (by simp [hi]) he hb
     exact ih _ this (by omega)
   rw [hrd] at this; cases this
theorem Dk {listed : Array Bool} {j : Nat} (hj : j < listed.size) (i : Nat) : (listed.setIfInBounds j true).getD i false = if i = j then true else listed.getD i false := by
 by_cases hij : i = j
 ·subst hij; simp [Array.getD_eq_getD_getElem?, hj]
 ·rw [if_neg hij]
  have : j ≠ i := fun e => hij e.symm
  simp [Array.getD_eq_getD_getElem?, this]
theorem Jr {listed : Array Bool} {j : Nat} (hon : ∀ j o e, ops[j]? = some o → e ∈ o.after → Region.binds .any e = true → e.on < j) (hsz : listed.size = ops.size) (hD : Rm ops listed) (hj : j ∈ Region.ready .any ops listed) : Rm ops (listed.setIfInBounds j true) := by
 have hjN := (Fc hsz hj).2
 intro p i hi hb hL
 rw [Dk (by omega)] at hL ⊢
 split
 ·rfl
 ·split at hL
  ·rename_i hij; subst hij; exact F3 hon hD hj p hb
  ·exact hD p i hi hb hL
theorem wanted_none {o : Oper} (h : o.guard = none) (y : Nat → Option Bool) : Region.wanted o y = true := by unfold Region.wanted; rw [h]

theorem Mx (hm : m ≤ ops.size) (hon : ∀ j o e, ops[j]? = some o → e ∈ o.after → Region.binds .any e = true → e.on < j) (hB : ∀ p j, p < m → m ≤ j → j < ops.size → bfr (Region.before ops) p j = true) (hG : ∀ j o, j < m → ops[j]? = some o → o.guard = none)
  (hN : ∀ listed a w, listed.size = ops.size → (∀ i, i < m → listed.getD i false = true) → (∀ i, m ≤ i → listed.getD i false = false) → Rm ops listed → N a w → wpAny P .any ops Q (ops.size - m) listed a w) :
  ∀ (fuel : Nat) (listed' listed : Array Bool) (rem : List Nat) (a : Act) (w : World), listed'.size = m → listed.size = ops.size → (∀ i, i < m → listed.getD i false = listed'.getD i false) → (∀ i, m ≤ i → listed.getD i false = false) → rem.length = fuel → rem.Nodup →
   (∀ i, i ∈ rem ↔ i < m ∧ listed'.getD i false = false) → Rm ops listed → wpAny P .any (ops.toList.take m).toArray (Qn N Q) fuel listed' a w → wpAny P .any ops Q (fuel + (ops.size - m)) listed a w
 | 0, listed', listed, rem, a, w, hs', hs, he, ht, hl, hnd, hr, hD, h => by
  rw [Nat.zero_add]
  refine hN listed a w hs (fun i hi => ?_) ht hD h.2
  rw [he i hi]
  cases hL : listed'.getD i false with
  | true => rfl
  | false =>
   have := (hr i).2 ⟨hi, hL⟩
   rw [List.eq_nil_of_length_eq_zero hl] at this; cases this
 | fuel + 1, listed', listed, rem, a, w, hs', hs, he, ht, hl, hnd, hr, hD, h => by
  rw [show fuel + 1 + (ops.size - m) = fuel + (ops.size - m) + 1 by omega]
  obtain ⟨r0, rr, hrem⟩ : ∃ r0 rr, rem = r0 :: rr := by
   cases rem with
   | nil => cases hl
   | cons r0 rr => exact ⟨r0, rr, rfl⟩
  have hr0 : r0 < m ∧ listed'.getD r0 false = false := (hr r0).1 (by rw [hrem]; simp)
  refine ⟨fun hrd => ?_, fun j hj => ?_⟩
  ·have := H0 hon hs hrd r0 (by omega)
   rw [he r0 hr0.1, hr0.2] at this; cases this
  ·obtain ⟨hLj, hjN⟩ := Fc hs hj
   have hpred := F3 hon hD hj
   have hjm : j < m := by
    rcases Nat.lt_or_ge j m with h | h
    ·exact h
    ·exfalso
     have := hpred r0 (hB r0 j hr0.1 h hjN)
     rw [he r0 hr0.1, hr0.2] at this; cases this
   obtain ⟨_, o, ho, hedge⟩ := mem_ready.1 hj
   have ho' : (ops.toList.take m).toArray[j]? = some o := by
    simp only [List.getElem?_toArray]
    rw [List.getElem?_take, if_pos hjm]; simpa using ho
   have hLj' : listed'.getD j false = false := by rw [← he j hjm]; exact hLj
   have hjl' : j < listed'.size := by omega
   have hj' : j ∈ Region.ready .any (ops.toList.take m).toArray listed' := by
    refine mem_ready.2 ⟨?_, o, ho', fun ed h1 h2 => ?_⟩
    ·simp [Array.getD_eq_getD_getElem?, hjl'] at hLj' ⊢; exact hLj'
    ·have := hon j o ed ho h1 h2
     rw [← he ed.on (by omega)]; exact hedge ed h1 h2
   have h2 := h.2 j hj'
   have hjr : j ∈ rem := (hr j).2 ⟨hjm, hLj'⟩
   have next : ∀ a w, wpAny P .any (ops.toList.take m).toArray (Qn N Q) fuel (listed'.setIfInBounds j true) a w → wpAny P .any ops Q (fuel + (ops.size - m)) (listed.setIfInBounds j true) a w := fun a w hh => by
    refine Mx hm hon hB hG hN fuel (listed'.setIfInBounds j true) (listed.setIfInBounds j true) (rem.erase j) a w (by simpa using hs') (by simpa using hs) (fun i hi => ?_) (fun i hi => ?_) (by rw [List.length_erase_of_mem hjr]; omega) (hnd.erase _) (fun i => ?_) (Jr hon hs hD hj) hh
    ·rw [Dk (by omega), Dk hjl', he i hi]
    ·rw [Dk (by omega), if_neg (by omega)]; exact ht i hi
    ·rw [hnd.mem_erase_iff, hr i, Dk hjl']
     by_cases hij : i = j
     ·subst hij; simp
     ·simp [hij]
   unfold wpOp at h2 ⊢
   rw [ho'] at h2
   rw [ho]
   simp only [wanted_none (hG j o hjm ho), if_true] at h2 ⊢
   rcases h2 with h2 | ⟨h2, a', w', h3⟩
   ·exact .inl (Vc next h2)
   ·exact .inr ⟨h2, a', w', h3⟩
end

theorem Rn {o : Oper} {c : Call} {s z ta : Tmp} (h : Q2 o = some (c, s, z, ta)) : o.op = .call c ∧ o.dst = some ta ∧ o.guard = none ∧ c.callee = .builtin .append ∧ c.args.toList = [.tmp s, .tmp z] := by
 unfold Q2 at h
 split at h
 ·rename_i h1 h2 h3
  split at h
  ·rename_i h4 h5; cases h; exact ⟨h1, h2, h3, h4, h5⟩
  ·cases h
 ·cases h
theorem Ro {o : Oper} {t : TypeId} {a i p : Tmp} (h : Q3 o = some (t, a, i, p)) : o.op = .indexAddr t (.tmp a) (.tmp i) ∧ o.dst = some p ∧ o.guard = none := by
 unfold Q3 at h
 split at h
 ·rename_i h1 h2 h3; cases h; exact ⟨h1, h2, h3⟩
 ·cases h
theorem Lh {o : Oper} {t : TypeId} {p v : Tmp} (h : Nv o = some (t, p, v)) : o.op = .store t (.tmp p) (.tmp v) ∧ o.dst = none ∧ o.guard = none := by
 unfold Nv at h
 split at h
 ·rename_i h1 h2 h3; cases h; exact ⟨h1, h2, h3⟩
 ·cases h
theorem Rp {o : Oper} {t : TypeId} {x b : Tmp} {f : Nat} (h : Q4 o = some (t, x, f, b)) : o.op = .fieldAddr t (.tmp x) f ∧ o.dst = some b ∧ o.guard = none := by
 unfold Q4 at h
 split at h
 ·rename_i h1 h2 h3; cases h; exact ⟨h1, h2, h3⟩
 ·cases h

section
variable {C : Cfg} {w0 : World} {callF : CallF} {n : Nat} {ops : Array Oper}
theorem Li {P : Program} {t e : TypeId} {c o len cap sz : Nat} {kd : IntKind} {i : Int} (w : World) (hu : P.underlying t = some (.slice e)) (hs : Al P e = some sz) (h0 : 0 ≤ i) (h1 : i < (len : Nat)) :
  (Instr.indexAt t (.slice (some ⟨c, o, none⟩) len cap) (.int kd i)).run P w = .ok (.pointer (some ⟨c, o + i.toNat * sz, none⟩)) w := by
 simp only [Instr.indexAt, asIntOf, Sem.run_bind, Sem.run_pure, run_underlying hu, Result.andThen_ok]
 rw [if_pos ⟨h0, h1⟩]
 simp [Ah hs, A6]
theorem It {P : Program} {s : TypeId} {c o b x f : Nat} {a : A} (w : World) (h : Eo P s (.ptr b x) f = some a) : ∃ off, a = .ptr b (x + off) ∧ (Instr.fieldAt s (.pointer (some ⟨c, o, none⟩)) f).run P w = .ok (.pointer (some ⟨c, o + off, none⟩)) w := by
 unfold Eo at h
 split at h
 ·rename_i fs hu
  split at h
  ·rename_i fd hf
   split at h
   ·rename_i n hn
    split at h
    ·cases h
    ·rename_i hn0
     cases h
     refine ⟨fd.offset, rfl, ?_⟩
     simp [Instr.fieldAt, run_underlying hu, hf, Instr.sureAddr, fieldPlace, Ah hn, hn0, A6]
   ·cases h
  ·cases h
 ·cases h
theorem Iu {P : Program} {t e : TypeId} {c o lo hi : Nat} {v : Value} {us : List Value} {sz : Nat} (w : World) (hh : w.heap[c]? = some (.cells us.toArray e (lo, hi))) (hn : Al P t = some sz) (hsz : v.cells.size = sz) (hb : o + sz ≤ us.length) (h1 : ∀ x ∈ v.cells.toList, x.oneCell' = true) (hr : lo = hi ∨ hi ≤ o) :
  (Instr.storeAt t (.pointer (some ⟨c, o, none⟩)) v).run P w = .ok () (w.setRow c (us.take o ++ v.cells.toList ++ us.drop (o + v.cells.toList.length)).toArray) := by
 have hrun := Cz P c e lo hi v.cells.toList o 0 us w hh (by simp only [Array.length_toList, hsz]; omega) h1 (by simpa using hr)
 simp only [Nat.add_zero] at hrun
 simp [Instr.storeAt, Instr.sureAddr, storeVar, Ah hn, hsz, hrun]

theorem T9 {m : Nat} {p : Pc} (hm : m + 5 = ops.size) (hp : Sl (ops.toList.drop m) = some p) (hon : ∀ j o e, ops[j]? = some o → e ∈ o.after → Region.binds .any e = true → e.on < j)
  (hb1 : ∀ t, m < t → t < ops.size → bfr (Region.before ops) m t = true) (hb2 : bfr (Region.before ops) (m + 1) (m + 2) = true) (hb3 : bfr (Region.before ops) (m + 3) (m + 4) = true)
  {φ φ3 : Fr} {σ σ3 : St} {x3 : X} (h : Eh C n p φ σ = some (x3, φ3, σ3)) {k : K} {a : Act} (hI : Inv w0 σ k) (hr : FrRel k n φ a) {Q : Exit → Act → World → Prop}
  (hQ : ∀ k3 a3, k.le k3 → Inv w0 σ3 k3 → FrRel k3 n φ3 a3 → Q .normal a3 k3.w) {listed : Array Bool} (hs : listed.size = ops.size) (hl1 : ∀ i, i < m → listed.getD i false = true) (hl2 : ∀ i, m ≤ i → listed.getD i false = false) (hD : Rm ops listed) :
  wpAny C.P .any ops Q 5 listed a k.w ∧ x3 = .normal := by
 -- the five operations
 have hlen : (ops.toList.drop m).length = 5 := by simp; omega
 unfold Sl at hp
 split at hp
 case h_2 => cases hp
 rename_i o0 o1 o2 o3 o4 hl5
 split at hp
 case h_2 => cases hp
 rename_i c s z ta t1 ta1 ti tp e tp1 tv st x f tb t2 tb1 ta2 g0 g1 g2 g3 g4
 split at hp
 case isFalse => cases hp
 rename_i hcd
 cases hp
 obtain ⟨e1, e2, e3, e4, n1, n2, n3, n4, n5, n6, n7, n8, n9, n10, n11, n12⟩ := hcd
 replace e1 := e1.symm
 replace e2 := e2.symm
 replace e3 := e3.symm
 replace e4 := e4.symm
 subst e1 e2 e3 e4
 obtain ⟨p0, d0, q0, c0, ar0⟩ := Rn g0
 obtain ⟨p1, d1, q1⟩ := Ro g1
 obtain ⟨p2, d2, q2⟩ := Lh g2
 obtain ⟨p3, d3, q3⟩ := Rp g3
 obtain ⟨p4, d4, q4⟩ := Lh g4
 have at_ : ∀ j, ops[m + j]? = [o0, o1, o2, o3, o4][j]? := fun j => by
  rw [← hl5, List.getElem?_drop]; simp
 have a0 : ops[m]? = some o0 := at_ 0
 have a1 : ops[m + 1]? = some o1 := at_ 1
 have a2 : ops[m + 2]? = some o2 := at_ 2
 have a3 : ops[m + 3]? = some o3 := at_ 3
 have a4 : ops[m + 4]? = some o4 := at_ 4
 -- the machine's step
 unfold Eh at h
 simp only at h
 split at h
 case h_2 => cases h
 rename_i s' z' ti' v x' hS hZ hTi hTv hX
 split at h
 case h_2 => cases h
 rename_i av addr σ3' hval
 cases h
 have h := hval
 clear hval
 unfold Sm at h
 dsimp only at h hS hZ hTi hTv hX ⊢
 split at h
 case h_2 => cases h
 rename_i sz zs ap kd len b o
 split at h
 case h_2 => cases h
 rename_i t t' hat0 hat1
 split at h
 case h_2 => cases h
 rename_i el el' el1 hu hu' hu1
 split at h
 case isFalse => cases h
 rename_i hcond
 obtain ⟨k1, k2, k3, k4, k5, k6, k7, k8, k9, k10, k11, k12⟩ := hcond
 split at h
 case h_2 => cases h
 rename_i av2 σ2 hap
 split at h
 case h_2 => cases h
 rename_i b' o' hfo
 split at h
 case h_2 => cases h
 rename_i σ3'' hso
 cases h
 refine ⟨?_, rfl⟩
 obtain ⟨inf, hinf, rfl⟩ := Ii k1
 have hsv := hr.slot s
 have hzv := hr.slot z
 have htiv := hr.slot ti
 have htvv := hr.slot tv
 have hxv := hr.slot x
 rw [Hr hS] at hsv
 rw [Hr hZ] at hzv
 rw [Hr hTi] at htiv
 rw [Hr hTv] at htvv
 rw [Hr hX] at hxv
 have hti := rel_v_inv htiv
 obtain ⟨xc, hxe, hxb⟩ : ∃ xc, a.tmps.getD x undef = .pointer (some ⟨xc, o, none⟩) ∧ k.blk b = some xc := by
  generalize a.tmps.getD x undef = xx at hxv
  cases hxv with
  | ptr hb => exact ⟨_, rfl, hb⟩
 have hvc := htvv.cells (Cj k7)
 have hvl : (a.tmps.getD tv undef).cells.size = inf.size := by
  have := hvc.1; rw [k6] at this; simpa using this.symm
 obtain ⟨w1, r, hrun, ⟨cc, oo, cap, us, e', lo, hi, k2', r1, r2, r3, r4, r5, r6, r7, r8, r9, r10, _⟩⟩ := Pj (P := C.P) (ty := o0.type) hI hat0 hat1 hu hu' (fun kd h => by cases h) hinf hsv hzv (new := zs) (by simp [Ai]) k4 k5 hvc k6 k9 hap
 subst r1
 -- the store of the slice
 obtain ⟨off, hfe, hfr⟩ : ∃ off, A.ptr b' o' = .ptr b (o + off) ∧ ∀ w, (Instr.fieldAt st (.pointer (some ⟨xc, o, none⟩)) f).run C.P w = .ok (.pointer (some ⟨xc, o + off, none⟩)) w := by
  obtain ⟨off, h1, _⟩ := It (c := xc) (o := o) k.w hfo
  refine ⟨off, h1, fun w => ?_⟩
  obtain ⟨off', h3, h4⟩ := It (c := xc) (o := o) w hfo
  rw [h1] at h3
  have : off' = off := by injection h3 with _ h3; omega
  subst this; exact h4
 cases hfe
 unfold Fp at hso
 simp only at hso
 split at hso
 case h_2 => cases hso
 rename_i cs eb nb hcb hnb
 split at hso
 case isFalse => cases hso
 rename_i hq
 obtain ⟨z1, z2, z3⟩ := hq
 cases hso
 have hkb : k2'.blk b = some xc := r8.toLe0.blk b xc hxb
 have hac := r6.cells (Cj z2)
 obtain ⟨ub, eb2, y1, y2, _, hI3, hle3⟩ := r7.storeRow (o := o + off) hcb hkb hac (by rw [z1]; exact z3)
 have hgb : σ2.blks.get b = some (.cells cs eb) := (r7.cellsAt hcb hkb).2.1
 have hne : xc ≠ cc := r10 b xc _ hgb hxb
 have hub : w1.heap[xc]? = some (.cells ub.toArray eb2 (0, 0)) := by
  rw [← y1, r5]; exact (setRow_other _ _ _ _ hne).symm
 have hnbs : (Value.slice (some ⟨cc, oo, none⟩) (len.toNat + 1) cap).cells.toList.length = nb := by rw [← hac.1, z1]
 generalize husA : (us.take (oo + len.toNat * inf.size) ++ (a.tmps.getD tv undef).cells.toList ++ us.drop (oo + len.toNat * inf.size + (a.tmps.getD tv undef).cells.toList.length)).toArray = usA at r5
 generalize husB : (ub.take (o + off) ++ (Value.slice (some ⟨cc, oo, none⟩) (len.toNat + 1) cap).cells.toList ++ ub.drop (o + off + (Value.slice (some ⟨cc, oo, none⟩) (len.toNat + 1) cap).cells.toList.length)).toArray = usB at hI3 hle3
 -- the worlds and the acts on the way
 let W : Nat → Nat → World := fun p q => if 2 ≤ q then (if 2 ≤ p then w1.setRow cc usA else w1).setRow xc usB else (if 2 ≤ p then w1.setRow cc usA else w1)
 have hn1' : ta < n := k10
 have hn2' : tp < n := k11
 have hn3' : tb < n := k12
 have go : ∀ (d p q : Nat) (listed : Array Bool) (a' : Act), p ≤ 2 → q ≤ 2 → p + q + d = 4 → listed.size = ops.size → Rm ops listed → (∀ i, i ≤ m → listed.getD i false = true) →
   (listed.getD (m + 1) false = decide (1 ≤ p)) → (listed.getD (m + 2) false = decide (2 ≤ p)) → (listed.getD (m + 3) false = decide (1 ≤ q)) → (listed.getD (m + 4) false = decide (2 ≤ q)) →
   a'.tmps.size = n → a'.defers = a.defers → (∀ t, t ≠ ta → t ≠ tp → t ≠ tb → a'.tmps.getD t undef = a.tmps.getD t undef) → a'.tmps.getD ta undef = .slice (some ⟨cc, oo, none⟩) (len.toNat + 1) cap →
   (1 ≤ p → a'.tmps.getD tp undef = .pointer (some ⟨cc, oo + len.toNat * inf.size, none⟩)) → (1 ≤ q → a'.tmps.getD tb undef = .pointer (some ⟨xc, o + off, none⟩)) →
   wpAny C.P .any ops Q d listed a' (W p q) := by
  intro d
  induction d with
  | zero =>
   intro p q listed a' hp hq hpq hsz hD hl h1 h2 h3 h4 b1 b2 b3 b4 b5 b6
   have ep : p = 2 := by omega
   have eq : q = 2 := by omega
   subst ep eq
   have all : ∀ i, i < ops.size → listed.getD i false = true := fun i hi => by
    rcases Nat.lt_or_ge m i with h | h
    ·have : i = m + 1 ∨ i = m + 2 ∨ i = m + 3 ∨ i = m + 4 := by omega
     rcases this with rfl | rfl | rfl | rfl
     ·rw [h1]; rfl
     ·rw [h2]; rfl
     ·rw [h3]; rfl
     ·rw [h4]; rfl
    ·exact hl i h
   refine ⟨List.eq_nil_iff_forall_not_mem.2 (fun j hj => ?_), ?_⟩
   ·obtain ⟨g1, g2⟩ := Fc hsz hj
    rw [all j g2] at g1; cases g1
   ·have hw : W 2 2 = (k2'.wd (k2'.w.setRow xc usB)).w := by
     show (w1.setRow cc usA).setRow xc usB = k2'.w.setRow xc usB
     rw [r5]
    rw [hw]
    refine hQ _ a' (r8.trans hle3) hI3 ⟨b1, fun t => ?_, ?_⟩
    ·simp only [U4]
     by_cases ht3 : t = tb
     ·subst ht3
      rw [if_pos rfl, b6 (by omega)]
      exact .ptr (hle3.toLe0.blk _ _ hkb)
     ·rw [if_neg ht3]
      by_cases ht2 : t = tp
      ·subst ht2; rw [if_pos rfl]; exact .junk
      ·rw [if_neg ht2]
       by_cases ht1 : t = ta
       ·subst ht1; rw [if_pos rfl, b4]; exact r6.mono hle3
       ·rw [if_neg ht1, b3 t ht1 ht2 ht3]; exact ((hr.slot t).mono r8).mono hle3
    ·rw [b2]; exact (hr.ds.mono r8).mono hle3
  | succ d ih =>
   intro p q listed a' hp hq hpq hsz hD hl h1 h2 h3 h4 b1 b2 b3 b4 b5 b6
   have hun : ∀ j, j ∈ Region.ready .any ops listed → j = m + 1 ∨ j = m + 2 ∨ j = m + 3 ∨ j = m + 4 := fun j hj => by
    obtain ⟨g1, g2⟩ := Fc hsz hj
    rcases Nat.lt_or_ge m j with h | h
    ·omega
    ·rw [hl j h] at g1; cases g1
   refine ⟨fun hrd => ?_, fun j hj => ?_⟩
   ·exfalso
    have all := H0 hon hsz hrd
    have := all (m + 2) (by omega)
    rw [h2] at this
    have := all (m + 4) (by omega)
    rw [h4] at this
    simp at *
    omega
   ·obtain ⟨g1, g2⟩ := Fc hsz hj
    have hpred := F3 hon hD hj
    have hD' := Jr hon hsz hD hj
    have hmk := fun i => Dk (listed := listed) (j := j) (by omega) i
    have hl' : ∀ i, i ≤ m → (listed.setIfInBounds j true).getD i false = true := fun i hi => by
     rw [hmk i]; split
     ·rfl
     ·exact hl i hi
    have put1 : ∀ (t u : Nat) (v : Value), t < n → (a'.put (some t) v).tmps.getD u undef = if u = t then v else a'.tmps.getD u undef := fun t u v ht => by
     show (a'.tmps.setIfInBounds t v).getD u undef = _
     exact Lf _ _ _ _ (by rw [b1]; exact ht)
    have put2 : ∀ (t : Nat) (v : Value), (a'.put (some t) v).tmps.size = n := fun t v => by simp [Act.put, b1]
    rcases hun j hj with rfl | rfl | rfl | rfl
    ·-- the place
     rw [h1] at g1
     have ep : p = 0 := by simp at g1; omega
     subst ep
     unfold wpOp
     rw [a1]
     simp only [wanted_none q1, if_true]
     refine .inl ?_
     unfold Oper.wp
     have he1 : a'.eval (.tmp ta) = .slice (some ⟨cc, oo, none⟩) (len.toNat + 1) cap := b4
     have he2 : a'.eval (.tmp ti) = .int kd len := by
      show a'.tmps.getD ti undef = _
      rw [b3 ti (fun e => n1 e.symm) (fun e => n11 e.symm) (fun e => n9 e.symm), hti]
     have hrun1 : (execOp a'.eval o1).run C.P (W 0 q) = .ok (.value (.pointer (some ⟨cc, oo + len.toNat * inf.size, none⟩))) (W 0 q) := by
      simp only [execOp, p1, he1, he2]
      exact Pp (Li _ hu1 k2 k8 (by omega))
     rw [hrun1]
     show wpAny C.P .any ops Q d _ (a'.put o1.dst _) (W 0 q)
     rw [d1]
     have hW : W 0 q = W 1 q := rfl
     rw [hW]
     refine ih 1 q _ _ (by omega) hq (by omega) (by simpa using hsz) hD' hl' ?_ ?_ ?_ ?_ (put2 _ _) (by rw [put_defers]; exact b2) (fun t c1 c2 c3 => ?_) ?_ (fun _ => ?_) (fun hq1 => ?_)
     ·rw [hmk, if_pos rfl]; rfl
     ·rw [hmk, if_neg (by omega), h2]; rfl
     ·rw [hmk, if_neg (by omega), h3]
     ·rw [hmk, if_neg (by omega), h4]
     ·rw [put1 _ _ _ hn2', if_neg c2]; exact b3 t c1 c2 c3
     ·rw [put1 _ _ _ hn2', if_neg n4]; exact b4
     ·rw [put1 _ _ _ hn2', if_pos rfl]
     ·rw [put1 _ _ _ hn2', if_neg (fun e => n7 e.symm)]; exact b6 hq1
    ·-- the element's store
     have g3 := hpred (m + 1) hb2
     rw [h1] at g3
     rw [h2] at g1
     have ep : p = 1 := by simp at g1 g3; omega
     subst ep
     unfold wpOp
     rw [a2]
     simp only [wanted_none q2, if_true]
     refine .inl ?_
     unfold Oper.wp
     have he1 : a'.eval (.tmp tp) = .pointer (some ⟨cc, oo + len.toNat * inf.size, none⟩) := b5 (by omega)
     have he2 : a'.eval (.tmp tv) = a.tmps.getD tv undef := b3 tv (fun e => n2 e.symm) (fun e => n8 e.symm) (fun e => n10 e.symm)
     have hrow : (W 1 q).heap[cc]? = some (.cells us.toArray e' (lo, hi)) := by
      show (if 2 ≤ q then w1.setRow xc usB else w1).heap[cc]? = _
      split
      ·rw [setRow_other _ _ _ _ (fun e => hne e.symm)]; exact r2
      ·exact r2
     have hst := Iu (v := a.tmps.getD tv undef) _ hrow k3 hvl r3 (Cy hvc k7) r4
     rw [husA] at hst
     have hrun1 : (execOp a'.eval o2).run C.P (W 1 q) = .ok .skip ((W 1 q).setRow cc usA) := by
      simp only [execOp, p2, he1, he2]
      exact U2 hst
     rw [hrun1]
     show wpAny C.P .any ops Q d _ (a'.put o2.dst _) ((W 1 q).setRow cc usA)
     rw [d2]
     have hW : (W 1 q).setRow cc usA = W 2 q := by
      show (if 2 ≤ q then w1.setRow xc usB else w1).setRow cc usA = (if 2 ≤ q then (w1.setRow cc usA).setRow xc usB else w1.setRow cc usA)
      split
      ·exact Pi _ hne _ _
      ·rfl
     rw [hW]
     refine ih 2 q _ _ (by omega) hq (by omega) (by simpa using hsz) hD' hl' ?_ ?_ ?_ ?_ b1 b2 b3 b4 (fun _ => b5 (by omega)) b6
     ·rw [hmk, if_neg (by omega), h1]; rfl
     ·rw [hmk, if_pos rfl]; rfl
     ·rw [hmk, if_neg (by omega), h3]
     ·rw [hmk, if_neg (by omega), h4]
    ·-- the field's address
     rw [h3] at g1
     have eq : q = 0 := by simp at g1; omega
     subst eq
     unfold wpOp
     rw [a3]
     simp only [wanted_none q3, if_true]
     refine .inl ?_
     unfold Oper.wp
     have he1 : a'.eval (.tmp x) = .pointer (some ⟨xc, o, none⟩) := by
      show a'.tmps.getD x undef = _
      rw [b3 x (fun e => n3 e.symm) (fun e => n6 e.symm) (fun e => n12 e.symm), hxe]
     have hrun1 : (execOp a'.eval o3).run C.P (W p 0) = .ok (.value (.pointer (some ⟨xc, o + off, none⟩))) (W p 0) := by
      simp only [execOp, p3, he1]
      exact Pp (hfr _)
     rw [hrun1]
     show wpAny C.P .any ops Q d _ (a'.put o3.dst _) (W p 0)
     rw [d3]
     have hW : W p 0 = W p 1 := rfl
     rw [hW]
     refine ih p 1 _ _ hp (by omega) (by omega) (by simpa using hsz) hD' hl' ?_ ?_ ?_ ?_ (put2 _ _) (by rw [put_defers]; exact b2) (fun t c1 c2 c3 => ?_) ?_ (fun hp1 => ?_) (fun _ => ?_)
     ·rw [hmk, if_neg (by omega), h1]
     ·rw [hmk, if_neg (by omega), h2]
     ·rw [hmk, if_pos rfl]; rfl
     ·rw [hmk, if_neg (by omega), h4]; rfl
     ·rw [put1 _ _ _ hn3', if_neg c3]; exact b3 t c1 c2 c3
     ·rw [put1 _ _ _ hn3', if_neg n5]; exact b4
     ·rw [put1 _ _ _ hn3', if_neg n7]; exact b5 hp1
     ·rw [put1 _ _ _ hn3', if_pos rfl]
    ·-- the slice's store
     have g3 := hpred (m + 3) hb3
     rw [h3] at g3
     rw [h4] at g1
     have eq : q = 1 := by simp at g1 g3; omega
     subst eq
     unfold wpOp
     rw [a4]
     simp only [wanted_none q4, if_true]
     refine .inl ?_
     unfold Oper.wp
     have he1 : a'.eval (.tmp tb) = .pointer (some ⟨xc, o + off, none⟩) := b6 (by omega)
     have he2 : a'.eval (.tmp ta) = .slice (some ⟨cc, oo, none⟩) (len.toNat + 1) cap := b4
     have hrow : (W p 1).heap[xc]? = some (.cells ub.toArray eb2 (0, 0)) := by
      show (if 2 ≤ p then w1.setRow cc usA else w1).heap[xc]? = _
      split
      ·rw [setRow_other _ _ _ _ hne]; exact hub
      ·exact hub
     have hst := Iu (v := .slice (some ⟨cc, oo, none⟩) (len.toNat + 1) cap) _ hrow hnb (by simpa using hnbs) (Nat.le_trans z3 y2) (Cy hac z2) (.inl rfl)
     rw [husB] at hst
     have hrun1 : (execOp a'.eval o4).run C.P (W p 1) = .ok .skip ((W p 1).setRow xc usB) := by
      simp only [execOp, p4, he1, he2]
      exact U2 hst
     rw [hrun1]
     show wpAny C.P .any ops Q d _ (a'.put o4.dst _) ((W p 1).setRow xc usB)
     rw [d4]
     have hW : (W p 1).setRow xc usB = W p 2 := rfl
     rw [hW]
     refine ih p 2 _ _ hp (by omega) (by omega) (by simpa using hsz) hD' hl' ?_ ?_ ?_ ?_ b1 b2 b3 b4 b5 (fun _ => b6 (by omega))
     ·rw [hmk, if_neg (by omega), h1]
     ·rw [hmk, if_neg (by omega), h2]
     ·rw [hmk, if_neg (by omega), h3]; rfl
     ·rw [hmk, if_pos rfl]; rfl
 -- the append itself
 refine ⟨fun hrd => ?_, fun j hj => ?_⟩
 ·have := H0 hon hs hrd m (by omega)
  rw [hl2 m (Nat.le_refl _)] at this; cases this
 ·obtain ⟨g1, g2⟩ := Fc hs hj
  have hpred := F3 hon hD hj
  have hjm : j = m := by
   rcases Nat.lt_trichotomy j m with h | h | h
   ·rw [hl1 j h] at g1; cases g1
   ·exact h
   ·have := hpred m (hb1 j h g2)
    rw [hl2 m (Nat.le_refl _)] at this; cases this
  subst hjm
  unfold wpOp
  rw [a0]
  simp only [wanted_none q0, if_true]
  refine .inl ?_
  unfold Oper.wp
  have hrun1 : (execOp a.eval o0).run C.P k.w = .ok (.value (.slice (some ⟨cc, oo, none⟩) (len.toNat + 1) cap)) w1 := by
   rw [A2 p0 c0, Mu ar0]
   exact Pp hrun
  rw [hrun1]
  show wpAny C.P .any ops Q 4 _ (a.put o0.dst _) (W 0 0)
  rw [d0]
  have hmk := fun i => Dk (listed := listed) (j := j) (by omega) i
  have put1 : ∀ (u : Nat) (v : Value), (a.put (some ta) v).tmps.getD u undef = if u = ta then v else a.tmps.getD u undef := fun u v => by
   show (a.tmps.setIfInBounds ta v).getD u undef = _
   exact Lf _ _ _ _ (by rw [hr.size]; exact hn1')
  refine go 4 0 0 _ _ (by omega) (by omega) (by omega) (by simpa using hs) (Jr hon hs hD hj) (fun i hi => ?_) ?_ ?_ ?_ ?_ (by simp [Act.put, hr.size]) (put_defers _ _ _) (fun t c1 _ _ => ?_) ?_ (fun h => by omega) (fun h => by omega)
  ·rw [hmk]; split
   ·rfl
   ·exact hl1 i (by omega)
  ·rw [hmk, if_neg (by omega), hl2 _ (by omega)]; rfl
  ·rw [hmk, if_neg (by omega), hl2 _ (by omega)]; rfl
  ·rw [hmk, if_neg (by omega), hl2 _ (by omega)]; rfl
  ·rw [hmk, if_neg (by omega), hl2 _ (by omega)]; rfl
  ·rw [put1, if_neg c1]
  ·rw [put1, if_pos rfl]

structure Reord (ρ : Nat → Nat) (ops ops' : Array Oper) : Prop where
  size : ops'.size = ops.size
  lt : ∀ i, i < ops.size → ρ i < ops.size
  inj : ∀ i j, i < ops.size → j < ops.size → ρ i = ρ j → i = j
  onto : ∀ j, j < ops.size → ∃ i, i < ops.size ∧ ρ i = j
  out : ∀ i, ops.size ≤ i → ops.size ≤ ρ i
  at' : ∀ i o, ops[i]? = some o → ops'[ρ i]? = some (Tz ρ o)
section
variable {ρ : Nat → Nat} {ops ops' : Array Oper} {P : Program} {md : Region.Mode} {Q : Exit → Act → World → Prop}
theorem Reord.yielded (h : Reord ρ ops ops') (tmps : Array Value) (j : Nat) : yielded ops' tmps (ρ j) = yielded ops tmps j := by
  unfold Go.yielded
  cases ho : ops[j]? with
  | some o => rw [h.at' j o ho]; rfl
  | none =>
    have hj : ops.size ≤ j := by
      rcases Nat.lt_or_ge j ops.size with g | g
      · rw [Array.getElem?_eq_getElem g] at ho; cases ho
      · exact g
    have : ops'[ρ j]? = none := Array.getElem?_eq_none (by rw [h.size]; exact h.out j hj)
    rw [this]
theorem Reord.wanted (h : Reord ρ ops ops') (o : Oper) (tmps : Array Value) : Region.wanted (Tz ρ o) (Go.yielded ops' tmps) = Region.wanted o (Go.yielded ops tmps) := by
  unfold Region.wanted Tz
  cases hg : o.guard with
  | none => rfl
  | some g => obtain ⟨j, b⟩ := g; simp only [Option.map_some, h.yielded]
theorem Reord.binds (o : Oper) (p : Nat → Bool) (q : Nat → Bool) (hpq : ∀ j, p (ρ j) = q j) : ((Tz ρ o).after.all fun e => !Region.binds md e || p e.on) = o.after.all fun e => !Region.binds md e || q e.on := by
  unfold Tz
  simp only [Array.all_map]
  congr 1
  funext e
  have : Region.binds md { e with on := ρ e.on } = Region.binds md e := rfl
  simp only [Function.comp, this, hpq]
def Same (ρ : Nat → Nat) (ops : Array Oper) (l l' : Array Bool) : Prop := l.size = ops.size ∧ l'.size = ops.size ∧ ∀ i, i < ops.size → l'.getD (ρ i) false = l.getD i false
theorem Same.get {l l' : Array Bool} (h : Reord ρ ops ops') (hs : Same ρ ops l l') (j : Nat) : l'.getD (ρ j) false = l.getD j false := by
  rcases Nat.lt_or_ge j ops.size with g | g
  · exact hs.2.2 j g
  · have h1 : ¬ j < l.size := by rw [hs.1]; omega
    have h2 : ¬ ρ j < l'.size := by rw [hs.2.1]; have := h.out j g; omega
    simp [Array.getD, h1, h2]
theorem Same.getT {l l' : Array Bool} (h : Reord ρ ops ops') (hs : Same ρ ops l l') {j : Nat} (hj : j < ops.size) : l'.getD (ρ j) true = l.getD j true := by
  have h1 : j < l.size := by rw [hs.1]; exact hj
  have h2 : ρ j < l'.size := by rw [hs.2.1]; exact h.lt j hj
  have := hs.2.2 j hj
  simp only [Array.getD, h1, h2, dif_pos] at this ⊢
  exact this
theorem Same.ready {l l' : Array Bool} (h : Reord ρ ops ops') (hs : Same ρ ops l l') {i : Nat} : i < ops.size → (ρ i ∈ Region.ready md ops' l' ↔ i ∈ Region.ready md ops l) := by
  intro hi
  unfold Region.ready
  simp only [List.mem_filter, List.mem_range, h.size]
  have ho : ops[i]? = some ops[i] := Array.getElem?_eq_getElem hi
  rw [h.at' i _ ho, ho, hs.getT h hi]
  simp only [Option.map_some, Option.getD_some, Reord.binds (md := md) ops[i] (fun j => l'.getD j false) (fun j => l.getD j false) (hs.get h)]
  exact ⟨fun g => ⟨hi, g.2⟩, fun g => ⟨h.lt i hi, g.2⟩⟩
theorem Lj {l : Array Bool} {i : Nat} (h : i ∈ Region.ready md ops l) : i < ops.size := by
  unfold Region.ready at h
  exact List.mem_range.1 (List.mem_filter.1 h).1
theorem Reord.wpOp (h : Reord ρ ops ops') {i : Nat} (hi : i < ops.size) {K K' : Act → World → Prop} (hK : ∀ a w, K' a w → K a w) {a : Act} {w : World} (g : Go.wpOp P ops' Q (ρ i) K' a w) : Go.wpOp P ops Q i K a w := by
  have ho : ops[i]? = some ops[i] := Array.getElem?_eq_getElem hi
  unfold Go.wpOp at g ⊢
  rw [h.at' i _ ho] at g
  rw [ho]
  simp only [h.wanted] at g
  show if Region.wanted ops[i] (Go.yielded ops a.tmps) = true then ops[i].wp P a w K Q ∨ (ops[i].asks P a w ∧ LetsOut Q) else K (a.put ops[i].dst undef) w
  by_cases hw : Region.wanted ops[i] (Go.yielded ops a.tmps) = true
  · rw [if_pos hw] at g ⊢
    exact g.imp (fun g => Oper.wp_mono (o := ops[i]) (K := K') hK g) id
  · rw [if_neg hw] at g ⊢
    exact hK _ _ g
theorem Reord.any (h : Reord ρ ops ops') : ∀ (fuel : Nat) (l l' : Array Bool) (a : Act) (w : World), Same ρ ops l l' → wpAny P md ops' Q fuel l' a w → wpAny P md ops Q fuel l a w
  | 0, l, l', a, w, hs, g => by
    refine ⟨?_, g.2⟩
    rcases hr : Region.ready md ops l with _ | ⟨i, r⟩
    · rfl
    · have hi : i ∈ Region.ready md ops l := by rw [hr]; exact List.mem_cons_self
      have := (hs.ready h (Lj hi)).2 hi
      rw [g.1] at this; cases this
  | fuel + 1, l, l', a, w, hs, g => by
    refine ⟨fun hr => g.1 ?_, fun i hi => ?_⟩
    · rcases hr' : Region.ready md ops' l' with _ | ⟨j, r⟩
      · rfl
      · have hj : j ∈ Region.ready md ops' l' := by rw [hr']; exact List.mem_cons_self
        have hjl : j < ops.size := by rw [← h.size]; exact Lj hj
        obtain ⟨i, hi, rfl⟩ := h.onto j hjl
        have := (hs.ready h hi).1 hj
        rw [hr] at this; cases this
    · have hil := Lj hi
      refine h.wpOp hil (fun a w g => Reord.any h fuel _ _ a w ⟨by simp [hs.1], by simp [hs.2.1], fun j hj => ?_⟩ g) (g.2 (ρ i) ((hs.ready h hil).2 hi))
      have h3 : i < l.size := by rw [hs.1]; exact hil
      have h4 : ρ i < l'.size := by rw [hs.2.1]; exact h.lt i hil
      have := hs.2.2 j hj
      simp only [Array.getD_eq_getD_getElem?, Array.getElem?_setIfInBounds] at this ⊢
      by_cases e : i = j
      · subst e; simp [h3, h4]
      · have e' : ρ i ≠ ρ j := fun g => e (h.inj i j hil hj g)
        rw [if_neg e, if_neg e']; exact this
end
theorem Vd {N : Nat} {l : List Nat} (h : Uy N l = true) : l.length = N ∧ (∀ i, i < N → i ∈ l) ∧ ∀ j, j < N → ∃ i, l[j]? = some i ∧ i < N ∧ l.idxOf i = j := by
  unfold Uy at h
  simp only [Bool.and_eq_true] at h
  obtain ⟨⟨h1, h2⟩, h3⟩ := h
  rw [List.all_eq_true] at h2 h3
  refine ⟨Nat.eq_of_beq_eq_true h1, fun i hi => by simpa using h2 i (List.mem_range.2 hi), fun j hj => ?_⟩
  have := h3 j (List.mem_range.2 hj)
  split at this
  · rename_i i hi
    simp only [Bool.and_eq_true, decide_eq_true_eq] at this
    exact ⟨i, hi, this.1, Nat.eq_of_beq_eq_true this.2⟩
  · cases this
theorem Ua {C : Cfg} {ops ops' : Array Oper} (h : Q5 C ops = some ops') : (∃ ρ, Reord ρ ops ops') ∧ C9 C ops' (Region.before ops') = true := by
  simp only [Q5] at h
  generalize Sn ops (Region.before ops) = l at h
  split at h
  case isFalse => cases h
  rename_i hq
  cases h
  rw [Bool.and_eq_true] at hq
  obtain ⟨h1, h2, h3⟩ := Vd hq.1
  have hp : ∀ i, i < ops.size → So ops.size l i = l.idxOf i := fun i hi => if_pos hi
  have hlt : ∀ i, i < ops.size → l.idxOf i < l.length := fun i hi => List.idxOf_lt_length_of_mem (h2 i hi)
  refine ⟨⟨So ops.size l, by simp [h1], fun i hi => ?_, fun i j hi hj e => ?_, fun j hj => ?_, fun i hi => ?_, fun i o ho => ?_⟩, hq.2⟩
  · rw [hp i hi, ← h1]; exact hlt i hi
  · rw [hp i hi, hp j hj] at e
    have e1 := List.getElem_idxOf (hlt i hi)
    have e2 := List.getElem_idxOf (hlt j hj)
    rw [← e1, ← e2]; simp only [e]
  · obtain ⟨i, _, hi, hj'⟩ := h3 j hj
    exact ⟨i, hi, by rw [hp i hi]; exact hj'⟩
  · unfold So; rw [if_neg (by omega)]; exact hi
  · have hi : i < ops.size := (Array.getElem?_eq_some_iff.1 ho).1
    have e1 : l[l.idxOf i]? = some i := by rw [List.getElem?_eq_getElem (hlt i hi), List.getElem_idxOf (hlt i hi)]
    rw [hp i hi]
    simp only [List.getElem?_toArray, List.getElem?_map, e1, Option.map_some, Array.getD_eq_getD_getElem?, ho, Option.getD_some]
theorem My {place : Nat → Option (Nat × Nat)} : ∀ (l l' : List (Nat × Value)) (cs cs' : Array Value), cs.size = cs'.size → l.length = l'.length → (∀ (j : Nat) x y, l[j]? = some x → l'[j]? = some y → x.1 = y.1 ∧ x.2.cells.size = y.2.cells.size) → (Instr.fill place cs l).isSome = true → (Instr.fill place cs' l').isSome = true
 | [], [], cs, cs', hs, hl, hx, h => rfl
 | [], y :: l', cs, cs', hs, hl, hx, h => by simp at hl
 | x :: l, [], cs, cs', hs, hl, hx, h => by simp at hl
 | (i, v) :: l, (i', v') :: l', cs, cs', hs, hl, hx, h => by
  obtain ⟨h1, h2⟩ := hx 0 _ _ rfl rfl
  simp only at h1 h2
  subst h1
  simp only [Instr.fill] at h ⊢
  split at h
  ·cases h
  ·rename_i off size hp
   rw [← h2, ← hs]
   split at h
   ·cases h
   ·rename_i hc
    rw [if_neg hc]
    refine My l l' _ _ ?_ (by simpa using hl) (fun j x y hx' hy' => hx (j + 1) x y (by simpa using hx') (by simpa using hy')) h
    have sz : ∀ (m : List (Value × Nat)) (c : Array Value), (m.foldl (fun cs (c, j) => cs.setIfInBounds (off + j) c) c).size = c.size := by
     intro m
     induction m with
     | nil => intro c; rfl
     | cons a m ih => intro c; rw [List.foldl_cons, ih]; simp
    have sz' : ∀ (u : Array Value) (c : Array Value), (u.zipIdx.foldl (fun cs (c, j) => cs.setIfInBounds (off + j) c) c).size = c.size := by
     intro u c
     rw [← Array.foldl_toList]; exact sz _ _
    rw [sz', sz', hs]
def Gives (P : Program) {α : Type} (e : Sem α) (φ : α → Prop) : Prop := ∀ w v w', e.run P w = .ok v w' → φ v
theorem Gives.bind {P : Program} {α β : Type} {e : Sem α} {f : α → Sem β} {φ : β → Prop} (h : ∀ x, Gives P (f x) φ) : Gives P (e >>= f) φ := by
 intro w v w' hr
 rw [Sem.run_bind] at hr
 cases he : e.run P w with
 | ok x w1 => rw [he] at hr; exact h x w1 v w' hr
 | halt x w1 => rw [he] at hr; cases hr
theorem Gives.pure {P : Program} {α : Type} {x : α} {φ : α → Prop} (h : φ x) : Gives P (Pure.pure x : Sem α) φ := by
 intro w v w' hr
 rw [Sem.run_pure] at hr
 cases hr; exact h
theorem Kk {P : Program} (t : TypeId) (l c : Value) : Gives P (Instr.makeSlice t l c) fun v => v.cells.size = 1 := by
 unfold Instr.makeSlice
 repeat first
  | exact Gives.pure rfl
  | (intro w v w' hr; simp [stuck] at hr; done)
  | (intro w v w' hr; simp [runtimePanic] at hr; done)
  | (refine Gives.bind fun x => ?_)
  | split
  | dsimp only
theorem Ve {P : Program} {q : Oper} {ρ : Operand → Value} {w w' : World} {x : Next} (hm : Q6 q = true) (h : (execOp ρ q).run P w = .ok x w') : ∃ v, x = .value v ∧ v.cells.size = 1 := by
 unfold Q6 at hm
 split at hm
 ·rename_i t l c hop
  simp only [execOp, hop, Sem.run_bind] at h
  cases hr : (Instr.makeSlice t (ρ l) (ρ c)).run P w with
  | ok v w1 =>
   rw [hr] at h
   simp only [Result.andThen_ok, Sem.run_pure] at h
   cases h
   exact ⟨v, rfl, Kk t _ _ _ _ _ hr⟩
  | halt y w1 => rw [hr] at h; cases h
 ·cases hm
structure MkT (ops : Array Oper) (j : Nat) (t : Tmp) : Prop where
 at' : ∃ q, ops[j]? = some q ∧ Q6 q = true ∧ q.guard = none ∧ q.dst = some t
 one : ∀ i q, i ≠ j → ops[i]? = some q → q.dst ≠ some t
theorem mkT {ops : Array Oper} {j : Nat} {t : Tmp} (h : W5 ops j t = true) : MkT ops j t := by
 unfold W5 at h
 split at h
 case h_2 => cases h
 rename_i q hq
 simp only [Bool.and_eq_true, Option.isNone_iff_eq_none, beq_iff_eq] at h
 obtain ⟨⟨⟨h1, h2⟩, h3⟩, h4⟩ := h
 refine ⟨⟨q, hq, h1, h2, h3⟩, fun i r hi hr => ?_⟩
 have := (List.all_eq_true.1 h4) i (List.mem_range.2 (Array.getElem?_eq_some_iff.1 hr).1)
 rw [hr] at this
 simpa [hi] using this
def Known (ops : Array Oper) (l : Array Bool) (a : Act) : Prop := ∀ j t, W5 ops j t = true → l.getD j false = true → (a.tmps.getD t undef).cells.size = 1
section
variable {P : Program} {ops : Array Oper} {Q Q' : Exit → Act → World → Prop}
theorem Known.step {i : Nat} {q : Oper} {l : Array Bool} {a : Act} {w : World} {K : Act → World → Prop} (hq : ops[i]? = some q) (hI : Known ops l a) (g : Go.wpOp P ops Q i (fun a' w' => Known ops (l.setIfInBounds i true) a' → K a' w') a w) : Go.wpOp P ops Q i K a w := by
 have put : ∀ (a0 : Act) (v : Value), a0.tmps = a.tmps → (Q6 q = true → q.guard = none → v.cells.size = 1) → Known ops (l.setIfInBounds i true) (a0.put q.dst v) := by
  intro a0 v ht hv j t hm hl
  obtain ⟨⟨r, h1, h2, h3, h4⟩, h5⟩ := mkT hm
  by_cases hij : i = j
  ·subst hij
   rw [hq] at h1; cases h1
   rw [h4]
   simp only [Act.put]
   by_cases hts : t < a0.tmps.size
   ·simp only [Array.getD_eq_getD_getElem?, Array.getElem?_setIfInBounds, if_true, hts, Option.getD_some]; exact hv h2 h3
   ·simp only [Array.getD_eq_getD_getElem?, Array.getElem?_setIfInBounds, if_true, hts, if_false, Option.getD_none]; rfl
  ·rw [getD_set_ne false hij] at hl
   have hn := h5 i q hij hq
   have hs := hI j t hm hl
   rw [← ht] at hs
   cases hd : q.dst with
   | none => exact hs
   | some d =>
    have hne : d ≠ t := fun e => hn (by rw [hd, e])
    simp only [Act.put, Array.getD_eq_getD_getElem?, Array.getElem?_setIfInBounds_ne hne]
    rw [Array.getD_eq_getD_getElem?] at hs; exact hs
 unfold Go.wpOp at g ⊢
 simp only [hq] at g ⊢
 by_cases hw : Region.wanted q (Go.yielded ops a.tmps) = true
 ·rw [if_pos hw] at g ⊢
  refine g.imp (fun g => ?_) id
  unfold Oper.wp at g ⊢
  cases hr : (execOp a.eval q).run P w with
  | halt x w' => rw [hr] at g; cases x <;> exact g
  | ok n w' =>
   rw [hr] at g
   have val : ∀ v : Value, (∀ u, n = .value u → v = u) → Q6 q = true → q.guard = none → v.cells.size = 1 := by
    intro v hv hm _
    obtain ⟨u, h1, h2⟩ := Ve hm hr
    rw [hv u h1]; exact h2
   have no : (∀ u, n ≠ .value u) → ∀ v : Value, Q6 q = true → q.guard = none → v.cells.size = 1 := by
    intro hn v hm _
    obtain ⟨u, h1, h2⟩ := Ve hm hr
    exact absurd h1 (hn u)
   cases n <;> simp only [Oper.upon] at g ⊢
   case value u => exact g (put a u rfl (val u fun u' e => by cases e; rfl))
   case skip => exact g (put a undef rfl (no (fun u e => by cases e) _))
   case defer d => exact g (put _ undef rfl (no (fun u e => by cases e) _))
   case enter f args =>
    refine Calls.mono g fun e w'' he => ?_
    cases e with
    | returned u => exact he (put a u rfl (no (fun u e => by cases e) _))
    | panicked c => exact he
    | outgrown => exact he
   case row row args => exact Rows.mono g fun u w'' he => he (put a u rfl (no (fun u e => by cases e) _))
 ·rw [if_neg hw] at g ⊢
  exact g (put a undef rfl (fun _ _ => rfl))
theorem Rq (hQ : ∀ X a w, Q X a w → Q' X a w) {i : Nat} {K : Act → World → Prop} {a : Act} {w : World} (g : Go.wpOp P ops Q i K a w) : Go.wpOp P ops Q' i K a w := by
 have hl : LetsOut Q → LetsOut Q' := fun ⟨a, w, h⟩ => ⟨a, w, hQ _ _ _ h⟩
 unfold Go.wpOp at g ⊢
 cases ho : ops[i]? with
 | none => rw [ho] at g; exact g
 | some o =>
  rw [ho] at g
  simp only at g ⊢
  by_cases hw : Region.wanted o (Go.yielded ops a.tmps) = true
  ·rw [if_pos hw] at g ⊢
   refine g.imp (fun g => ?_) (fun g => ⟨g.1, hl g.2⟩)
   unfold Oper.wp at g ⊢
   generalize (execOp a.eval o).run P w = r at *
   cases r with
   | ok n w' =>
    cases n <;> simp only [Oper.upon] at g ⊢
    case value u => exact g
    case skip => exact g
    case defer d => exact g
    case enter f args => exact Calls.mono g fun e w'' he => by cases e <;> first | exact he | exact hQ _ _ _ he | exact hl he
    case row row args => exact g
   | halt x w' => cases x <;> simp only [Oper.upon] at g ⊢ <;> exact hQ _ _ _ g
  ·rw [if_neg hw] at g ⊢; exact g
theorem Kc {md : Region.Mode} (hQ : ∀ X a w, Q X a w → Q' X a w) : ∀ (fuel : Nat) (l : Array Bool) (a : Act) (w : World), wpAny P md ops Q fuel l a w → wpAny P md ops Q' fuel l a w
 | 0, _, _, _, g => ⟨g.1, hQ _ _ _ g.2⟩
 | fuel + 1, _, _, _, g => ⟨fun h => hQ _ _ _ (g.1 h), fun i hi => Rq hQ (wpOp_mono (fun a w g => Kc hQ fuel _ a w g) (g.2 i hi))⟩
theorem Vf (hT : ∀ (j : Nat) (o : Oper) (e : Edge), ops[j]? = some o → e ∈ o.after → Region.binds .any e = true → e.on < j) {l : Array Bool} (hl : ClL .any ops l) : ∀ (i p : Nat), bfr (Region.before ops) p i = true → (∀ q, ops[i]? = some q → ∀ e ∈ q.after, Region.binds .any e = true → l.getD e.on false = true) → l.getD p false = true := by
 intro i
 induction i using Nat.strongRecOn with
 | _ i ih =>
  intro p h hq
  obtain ⟨o, h1, e, h2, h3, h4⟩ := Ir hT h
  have hon := hT i o e h1 h2 h3
  have he := hq o h1 e h2 h3
  rcases h4 with rfl | h4
  ·exact he
  ·exact ih e.on hon p h4 (fun q hq' e' he' hb' => hl e.on q e' hq' he he' hb')
theorem Pz {o : Oper} {l : Array Bool} {a : Act} (hI : Known ops l a) (hp : ∀ e ∈ o.after, Region.binds .any e = true → l.getD e.on false = true) : ∀ (m : List (Nat × Operand)) (r : List (Nat × Value)), Pd ops o m = some r → r.length = m.length ∧ ∀ (j : Nat) x y, r[j]? = some x → m[j]? = some y → x.1 = y.1 ∧ x.2.cells.size = (a.eval y.2).cells.size
 | [], r, h => by simp only [Pd] at h; cases h; exact ⟨rfl, fun j x y h => by simp at h⟩
 | (i, x) :: m, r, h => by
  simp only [Pd] at h
  split at h
  case h_2 => cases h
  rename_i v l' h1 h2
  cases h
  obtain ⟨g1, g2⟩ := Pz hI hp m l' h2
  refine ⟨by simp [g1], fun j x' y' hx hy => ?_⟩
  cases j with
  | succ j => exact g2 j x' y' (by simpa using hx) (by simpa using hy)
  | zero =>
   simp at hx hy
   subst hx; subst hy
   refine ⟨rfl, ?_⟩
   unfold Abw at h1
   split at h1
   ·cases h1; rfl
   ·rename_i t
    split at h1
    case isFalse => cases h1
    rename_i hm
    cases h1
    obtain ⟨e, he, hb⟩ := Array.any_eq_true'.1 hm
    rw [Bool.and_eq_true] at hb
    exact (hI e.on t hb.2 (hp e he hb.1)).symm
   ·cases h1
theorem P0 {o : Oper} {l : Array Bool} {a : Act} (hs : Uz P ops o = true) (hI : Known ops l a) (hp : ∀ e ∈ o.after, Region.binds .any e = true → l.getD e.on false = true) : ∃ v, Yields P ops o v a := by
 unfold Uz at hs
 rw [Bool.and_eq_true, Option.isNone_iff_eq_none] at hs
 obtain ⟨hg, hs⟩ := hs
 split at hs
 case h_2 => cases hs
 rename_i t parts hop
 split at hs
 case h_2 => cases hs
 rename_i fs z hu hz
 split at hs
 case h_2 => cases hs
 rename_i ps r hps hr
 obtain ⟨i, hi, hiz⟩ := Option.bind_eq_some_iff.1 hz
 obtain ⟨g1, g2⟩ := Pz hI hp parts.toList r hr
 have hf := My (place := (ps[·]?)) r ((parts.map fun (i, x) => (i, a.eval x)).toList) z.cells z.cells rfl (by simp [g1]) (fun j x y hx hy => by
  rw [Array.toList_map, List.getElem?_map, Option.map_eq_some_iff] at hy
  obtain ⟨y0, hy0, rfl⟩ := hy
  exact g2 j x y0 hx hy0) hs
 obtain ⟨cs, hcs⟩ := Option.isSome_iff_exists.1 hf
 refine ⟨.agg cs, .inl ⟨by unfold Region.wanted; rw [hg], fun w => ?_⟩⟩
 have hmap : (fs.mapM fun f => do pure (f.offset, ← sizeOf f.type) : Sem (Array (Nat × Nat))).run P w = .ok ps.toArray w := by
  rw [Array.mapM_eq_mapM_toList, Sem.run_map, Gu w hps]
  rfl
 have hfill : Instr.fill (fun x => ps.toArray[x]?) z.cells (parts.map fun (i, x) => (i, a.eval x)).toList = some cs := by
  rw [← hcs]; congr 1; funext x; simp
 simp only [execOp, hop, Instr.build, Sem.run_bind, Am hi hiz, Result.andThen_ok, run_underlying hu, hmap]
 rw [hfill]
 rfl
end
theorem Vg {C : Cfg} {ops ops' : Array Oper} {p : Nat} (h : Nw C ops p = some ops') {Q : Exit → Act → World → Prop} (ho : ¬ LetsOut Q) (hQ : ∀ c a w d v, Q (.panic c) a w → Q (.panic c) (Act.put a d v) w) {a : Act} {w : World} :
  ops'.size = ops.size ∧ (wpAny C.P .any ops' Q ops.size (Array.replicate ops.size false) a w → wpAny C.P .any ops Q ops.size (Array.replicate ops.size false) a w) := by
 unfold Nw at h
 split at h
 case h_2 => cases h
 rename_i o hop
 simp only at h
 split at h
 case isFalse => cases h
 rename_i hc
 cases h
 simp only [Bool.and_eq_true] at hc
 obtain ⟨⟨⟨⟨hB, hs⟩, hn⟩, hon⟩, huse⟩ := hc
 have hps : p < ops.size := (Array.getElem?_eq_some_iff.1 hop).1
 have hT : ∀ (j : Nat) (q : Oper) (e : Edge), ops[j]? = some q → e ∈ q.after → Region.binds .any e = true → e.on < j := by
  intro j q e hj he hb
  have := (List.all_eq_true.1 hon) j (List.mem_range.2 (Array.getElem?_eq_some_iff.1 hj).1)
  rw [hj] at this
  simp only [Array.all_eq_true_iff_forall_mem] at this
  have := this e he
  simpa [hb] using this
 have hbl : ∀ b, b ∈ E5 C ops (Region.before ops) p → b < ops.size ∧ b ≠ p := by
  intro b hb
  unfold E5 at hb
  obtain ⟨h1, h2⟩ := List.mem_filter.1 hb
  refine ⟨List.mem_range.1 h1, ?_⟩
  split at h2
  ·simp only [Bool.and_eq_true, decide_eq_true_eq] at h2
   have := h2.2
   omega
  ·cases h2
 have hS : Slow .any ops (ops.setIfInBounds p { o with after := o.after ++ ((E5 C ops (Region.before ops) p).map fun b => (⟨b, .data⟩ : Edge)).toArray }) p o { o with after := o.after ++ ((E5 C ops (Region.before ops) p).map fun b => (⟨b, .data⟩ : Edge)).toArray } (fun b => b ∈ E5 C ops (Region.before ops) p) := by
  refine ⟨by simp, hop, by simp [hps], rfl, fun e he => by simp [he], fun e he hb => ?_, fun i hi => by rw [Array.getElem?_setIfInBounds_ne (fun e => hi e.symm)], hT, hbl, fun i q cs b hq => Region.noSelect_spec hn i q cs b hq, fun i q hi hq hu => ?_⟩
  ·simp only [Array.mem_append] at he
   rcases he with he | he
   ·exact .inl he
   ·right
    simp only [List.mem_toArray, List.mem_map] at he
    obtain ⟨b, hb', rfl⟩ := he
    exact hb'
  ·have := (List.all_eq_true.1 huse) i (List.mem_range.2 (Array.getElem?_eq_some_iff.1 hq).1)
   rw [hq] at this
   simp only [Bool.or_eq_true, beq_iff_eq, hi, false_or, Bool.and_eq_true, Bool.not_eq_true'] at this
   rcases this with (⟨h1, h2⟩ | h1) | h1
   ·exfalso
    rcases hu with ⟨e, he, hb, heq⟩ | hu
    ·have : (q.after.any fun e => Region.binds .any e && e.on == p) = true := Array.any_eq_true'.2 ⟨e, he, by simp [hb, heq]⟩
     rw [this] at h1; cases h1
    ·rw [hu] at h2; cases h2
   ·left
    intro l hl hlp
    exact Vf hT hl p i h1 (fun q' hq' e he hb => hl p q' e hq' hlp he hb)
   ·right
    intro l hl hpr b hb
    exact Vf hT hl i b ((List.all_eq_true.1 h1) b hb) (fun q' hq' => by rw [hq] at hq'; cases hq'; exact hpr)
 refine ⟨hS.size, fun g => ?_⟩
 have hfalse : ∀ i, (Array.replicate ops.size false).getD i false = false := fun i => by
  rw [Array.getD_eq_getD_getElem?, Array.getElem?_replicate]; split <;> rfl
 refine hS.any ho (I := Known ops) (fun i q l a w K hq _ _ hI g => hI.step hq g) (fun l a hI hp => P0 hs hI hp) (fun c a w v => hQ c a w o.dst v) ops.size _ a w (by simp) (fun i q e hq hl => ?_) (hfalse p) (fun j t hm hl => ?_) ?_ g
 ·rw [hfalse] at hl; cases hl
 ·rw [hfalse] at hl; cases hl
 ·rw [List.filter_eq_self.2 (fun i _ => by rw [hfalse]; rfl)]; simp
theorem Kd {C : Cfg} {Q : Exit → Act → World → Prop} (ho : ¬ LetsOut Q) (hQ : ∀ c a w d v, Q (.panic c) a w → Q (.panic c) (Act.put a d v) w) {a : Act} {w : World} : ∀ (r : List Nat) (ops : Array Oper),
  wpAny C.P .any (G7 C r ops) Q (G7 C r ops).size (Array.replicate (G7 C r ops).size false) a w → wpAny C.P .any ops Q ops.size (Array.replicate ops.size false) a w
 | [], ops, g => g
 | p :: r, ops, g => by
  simp only [G7] at g
  have g1 := Kd ho hQ r _ g
  cases h : Nw C ops p with
  | none => rw [h] at g1; exact g1
  | some ops' =>
   rw [h] at g1
   obtain ⟨h1, h2⟩ := Vg h ho hQ (a := a) (w := w)
   simp only [Option.getD_some] at g1
   rw [h1] at g1
   exact h2 g1
theorem Oj {C : Cfg} {w0 : World} {callF : CallF} {n : Nat} {ops : Array Oper} (hc : Bi C w0 callF) {φ : Fr} {σ : St} {k : K} {a : Act} {r : X × Fr × St} {Q : Exit → Act → World → Prop} (h : Km C callF n ops φ σ = some r)
  (hI : Inv w0 σ k) (hg : GlobOk C k) (hr : FrRel k n φ a) (hQ : ∀ e a' w', Ends w0 k n r e a' w' → Q e a' w') : wpAny C.P .any ops Q ops.size (Array.replicate ops.size false) a (k.wd k.w.drew).w := by
 simp only [Km] at h
 split at h
 case isFalse => cases h
 rename_i hd
 split at h
 case h_2 => cases h
 rename_i φ' σ' hrun
 cases h
 have hw := Oi (Q := fun X a w => X = .normal ∧ Q .normal a w) hc hd hrun hI hg hr (fun e a' w' he => ⟨he.1, hQ _ _ _ ⟨rfl, he.2⟩⟩)
 exact Kc (fun X a w h => by obtain ⟨rfl, h⟩ := h; exact h) _ _ _ _ (Kd (by rintro ⟨a, w, h, _⟩; cases h) (fun c a w d v h => by cases h.1) _ _ hw)
theorem drOk (hm : C.P.follows .mixedOrders = true) : Io C w0 := by
 intro callF hc n ops φ σ k a r id Q h hI hg hr hQ
 refine wp_region_any hm ?_
 show wpAny C.P .any ops Q ops.size (Array.replicate ops.size false) a (k.wd k.w.drew).w
 unfold Db at h
 split at h
 ·rename_i hd; exact Oi hc hd h hI hg hr hQ
 ·unfold Ny at h
  split at h
  case h_2 =>
   unfold Nx at h
   split at h
   case h_2 => exact Oj hc h hI hg hr hQ
   rename_i ops' hp'
   obtain ⟨⟨ρ, hre⟩, hd'⟩ := Ua hp'
   have hw := Oi (Q := Q) hc hd' h hI hg hr hQ
   rw [hre.size] at hw
   exact hre.any ops.size _ _ a _ ⟨by simp, by simp, fun i hi => by simp [Array.getD_eq_getD_getElem?, hi, hre.lt i hi]⟩ hw
  rename_i p hp
  split at h
  case isFalse => cases h
  rename_i hst
  rw [Bool.and_eq_true] at hst
  obtain ⟨hst, hd⟩ := hst
  split at h
  case h_2 => cases h
  rename_i φ1 σ1 hrun
  have hm5 : ops.size - 5 + 5 = ops.size := by
   unfold Sl at hp
   split at hp
   ·rename_i hl5
    have := congrArg List.length hl5
    simp at this; omega
   ·cases hp
  unfold Ux at hst
  simp only [Bool.and_eq_true] at hst
  obtain ⟨⟨⟨⟨⟨⟨⟨t1, t2⟩, t3⟩, t4⟩, t5⟩, t6⟩, t7⟩, t8⟩ := hst
  rw [List.all_eq_true] at t1 t2
  have lt : ∀ {j : Nat} {o : Oper}, ops[j]? = some o → j < ops.size := fun h => (Array.getElem?_eq_some_iff.1 h).1
  have hon : ∀ j o e, ops[j]? = some o → e ∈ o.after → Region.binds .any e = true → e.on < j := fun j o e ho he hb => by
   have := t1 j (List.mem_range.2 (lt ho))
   rw [ho] at this
   simp only [Bool.and_eq_true, Array.all_eq_true_iff_forall_mem] at this
   have := this.1 e he
   simpa [hb] using this
  have hG : ∀ j o, j < ops.size - 5 → ops[j]? = some o → o.guard = none := fun j o hj ho => by
   have := t1 j (List.mem_range.2 (lt ho))
   rw [ho] at this
   simp only [Bool.and_eq_true, Bool.or_eq_true, decide_eq_true_eq] at this
   rcases this.2 with h | h
   ·omega
   ·exact Option.isNone_iff_eq_none.1 h
  have hB : ∀ p j, p < ops.size - 5 → ops.size - 5 ≤ j → j < ops.size → bfr (Region.before ops) p j = true := fun p j h1 h2 h3 => by
   have := t2 j (List.mem_range.2 h3)
   simp only [Bool.or_eq_true, decide_eq_true_eq] at this
   rcases this with h | h
   ·omega
   ·exact (List.all_eq_true.1 h) p (List.mem_range.2 h1)
  have hlen : (ops.toList.take (ops.size - 5)).toArray.size = ops.size - 5 := by simp
  have hpre := Oi hc (Q := Qn (fun a' w' => W8 w0 k n φ1 σ1 a' w') Q) hd (Ih hrun) hI hg hr (fun e a' w' he => by
   obtain ⟨rfl, he⟩ := he
   exact he)
  rw [hlen] at hpre
  have hfalse : ∀ (l i : Nat), (Array.replicate l false).getD i false = false := fun l i => by
   rw [Array.getD_eq_getD_getElem?, Array.getElem?_replicate]; split <;> rfl
  have key := Mx (P := C.P) (m := ops.size - 5) (by omega) hon hB hG (fun listed a' w' hs h1 h2 hD hH => by
   obtain ⟨k1, rfl, hk1, hI1, hr1⟩ := hH
   obtain ⟨x3, φ3, σ3⟩ := r
   rw [show ops.size - (ops.size - 5) = 5 by omega]
   have hx : x3 = .normal := by
    unfold Eh at h
    split at h
    case h_2 => cases h
    split at h
    case h_2 => cases h
    cases h; rfl
   subst hx
   exact (T9 hm5 hp hon (fun t h3 h4 => by
    have : t = ops.size - 5 + 1 ∨ t = ops.size - 5 + 2 ∨ t = ops.size - 5 + 3 ∨ t = ops.size - 5 + 4 := by omega
    rcases this with rfl | rfl | rfl | rfl
    ·exact t3
    ·exact t4
    ·exact t5
    ·exact t6) t7 t8 h hI1 hr1 (fun k3 a3 g1 g2 g3 => hQ _ _ _ ⟨rfl, k3, rfl, hk1.trans g1, g2, g3⟩) hs h1 h2 hD).1)
   (ops.size - 5) (Array.replicate (ops.size - 5) false) (Array.replicate ops.size false) (List.range (ops.size - 5)) a (k.wd k.w.drew).w (by simp) (by simp) (fun i _ => by rw [hfalse, hfalse]) (fun i _ => hfalse _ _) (by simp) List.nodup_range (fun i => by simp [hfalse, List.mem_range]) (fun p i _ _ hL => by rw [hfalse] at hL; cases hL) hpre
  rw [show ops.size - 5 + (ops.size - (ops.size - 5)) = ops.size by omega] at key
  exact key
end
end Go.DM
namespace Go.DM
open Go Go.RowKit Go.WideShapes Go.ChangeShapes

def σ0 : St := ⟨.nil, 0, .nil, 0⟩
def P1 (w : World) (c : Nat) : Option Nat := match w.heap[c]? with
 | some (.cells cs _ _) => some cs.size
 | _ => none
def Lk (w : World) : K := { base := w.heap.size, w := w, blk := fun _ => none, frz := P1 w, own := fun _ => none, live := fun _ => false }
theorem Ub (w : World) : Inv w σ0 (Lk w) := by
 refine ⟨rfl, Below.refl _ _, fun b x h => ?_, fun b h => rfl, fun b c h => ?_, fun b b' c x x' h => ?_, fun c n h => ?_, fun id e h => ?_, fun id h => rfl, fun id c h => ?_, fun id id' e e' c h => ?_, fun id c h => ?_⟩
 ·simp [σ0] at h
 ·simp [Lk] at h
 ·simp [σ0] at h
 ·simp only [Lk, P1] at h ⊢
  split at h
  ·rename_i cs e fr hh; cases h; exact ⟨cs, e, fr, hh, Nat.le_refl _⟩
  ·cases h
 ·simp [σ0] at h
 ·simp [Lk] at h
 ·simp [σ0] at h
 ·simp [Lk] at h

def isTrue (r : Option (Out × St)) : Bool := match r with
 | some (.ret (.v (.bool true)), _) => true
 | _ => false
mutual
def Vh : DataW Unit → List Value
 | .lit l => [l.value]
 | .agg ds => flatDs ds
 | _ => []
def flatDs : List (DataW Unit) → List Value
 | [] => []
 | d :: r => Vh d ++ flatDs r
end
def withCells (vs : Array Value) : Obj → Obj
 | .cells _ t fr => .cells vs t fr
 | o => o
def layWorld (P : Program) (tp te : TypeId) (w : World) : List (String × DataW Unit) → World
 | [] => w
 | (n, d) :: r => match P.globalNamed n with
  | some g => match d with
   | .iface _ (.ptr x) => layWorld P tp te { w with heap := (w.heap.modify g (withCells #[.iface tp (.pointer (some ⟨w.heap.size, 0, none⟩))])).push (.cells (Vh x).toArray te (0, 0)) } r
   | d => layWorld P tp te { w with heap := w.heap.modify g (withCells (Vh d).toArray) } r
  | none => layWorld P tp te w r
theorem layWorld_os (P : Program) (tp te : TypeId) : ∀ (l : List (String × DataW Unit)) (w : World), (layWorld P tp te w l).os = w.os
 | [], _ => rfl
 | (n, d) :: r, w => by
  unfold layWorld
  split
  ·split
   ·rw [layWorld_os P tp te r]
   ·rw [layWorld_os P tp te r]
  ·rw [layWorld_os P tp te r]

section
variable {H : Type} {enc : TypeId × Value → H} {P : Program}
theorem post_of_below {f : Func} {s : ChangeSpec} {apart fresh handsOn again : Bool} {W W' : World} {args : Array Value} {v : Value} {ds gs : List (DataW H)} {before pa pv : List MemPlace}
  (hW : DataW.Whole enc P f.params.toList s.vars apart W args.toList ds gs before)
  (hres : ∀ (b : Nat) (sp : Nat → Bool) (hd : Bool), DataW.TrodAll enc P W' b sp hd f.resultTypes.toList (v.resultList f.resultTypes.size) (s.fn H (ds ++ gs)).results [])
  (hargs : ∀ sp : Nat → Bool, (∀ p ∈ before, sp p.block = true) → DataW.TrodAll enc P W' 0 sp true f.params.toList args.toList (s.fn H (ds ++ gs)).args pa)
  (hvars : ∀ sp : Nat → Bool, (∀ p ∈ before, sp p.block = true) → DataW.TrodVars enc P W' sp s.vars (s.fn H (ds ++ gs)).vars pv)
  (hps : before = pa ++ pv) (hb : Below W.heap.size W W')
  (hok : ∀ (j : Nat) (t : TypeId) (r : Value), f.resultTypes[j]? = some t → (v.resultList f.resultTypes.size)[j]? = some r → Value.okWide P W' .any 0 t r) :
  s.post enc P f apart fresh handsOn again W args v W' := by
 have hlt : ∀ p ∈ before, p.block < W.heap.size := fun p hp => hW.lt p hp
 have hold : ∀ p ∈ before, (fun b => decide (b < W.heap.size)) p.block = true := fun p hp => by simpa using hlt p hp
 refine ⟨ds, gs, before, [], pa, pv, hW, hres _ _ _, hargs _ hold, hvars _ hold, World.keptBut_mono (fun p hp => ⟨hp, ?_⟩) (hb.frame (· ∈ before)), fun _ => ?_⟩
 ·rw [hps, List.mem_append] at hp
  exact Or.inr hp
 ·obtain ⟨_, _, _, _, _, hz, hn⟩ := hW
  refine ⟨hok, _, _, ([] ++ pa) ++ pv, ⟨[] ++ pa, pv, trodAll_append (hargs _ (fun _ _ => rfl)) (hres _ _ _), hvars _ (fun _ _ => rfl), rfl, ?_, ?_⟩, ?_⟩
  ·intro b off hp
   have hin : MemPlace.cell b off ∈ before := by rw [hps]; simpa using hp
   rw [hb.frozen (hlt _ hin)]
   exact hz b off hin
  ·intro ha
   have := hn ha
   rw [hps] at this
   simpa using this
  ·intro p hp _
   rw [hps]
   simpa using hp
end
end Go.DM
namespace Go.DM
open Go Go.RowKit

end Go.DM
