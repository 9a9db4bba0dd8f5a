/-
  Texts put together (10).
-/
import Derived.Test.YtbogecljkaimdaaGreatDoorZRecordBack9
namespace Go.Sl
set_option maxRecDepth 10000
structure Rdr.At (s : Rdr) (t : List UInt8) : Prop where
  e : s.e = 0
  le : s.at_ ≤ s.bs.length
  eq : s.bs.drop s.at_ = t
theorem Rdr.At.len {s : Rdr} {t : List UInt8} (h : s.At t) : s.at_ + t.length = s.bs.length := by
  have := congrArg List.length h.eq
  rw [List.length_drop] at this
  have := h.le
  omega
theorem Rdr.At.step {s : Rdr} {x t : List UInt8} (h : s.At (x ++ t)) {n : Nat} (hn : n = x.length) : s.cut n 0 = x ∧ (Rdr.mk s.bs (s.at_ + n) s.e).At t := by
  subst hn
  have hl := h.len
  rw [List.length_append] at hl
  refine ⟨?_, h.e, by simp only; omega, ?_⟩
  · rw [Rdr.cut, Nat.add_zero, h.eq]; simp
  · simp only; rw [← List.drop_drop, h.eq]; simp
theorem zGn {s : Rdr} {n k : Nat} {t : List UInt8} (h : s.At (zBm n k ++ t)) (h1 : 1 ≤ k) (h8 : k ≤ 8) (hn : n < 256 ^ k) : (s.num k).1 = n ∧ (s.num k).2.At t := by
  have hl := h.len
  rw [List.length_append, zBa] at hl
  obtain ⟨q1, q2⟩ := h.step (n := k) (by rw [zBa])
  have hv : s.num k = (zCh (s.cut k 0), { s with at_ := s.at_ + k }) := by
    simp [Rdr.num, h.e, show ¬ ((k : Int) < 1 ∨ 8 < (k : Int)) by omega, show ¬ s.bs.length < s.at_ + k by omega]
  rw [hv, q1, zFv hn]
  exact ⟨rfl, q2⟩
theorem zGj {s : Rdr} {x t : List UInt8} {m : Int} (h : s.At (txt x ++ t)) (hm : (x.length : Int) ≤ m) (hx : x.length < 65536) : (s.text m).1 = x ∧ (s.text m).2.At t := by
  have hl := h.len
  rw [List.length_append, zCu] at hl
  rw [txt, List.append_assoc] at h
  obtain ⟨q1, q2⟩ := h.step (n := 2) (by rw [zBa])
  obtain ⟨q3, q4⟩ := q2.step (n := x.length) rfl
  have hnum : zCh (s.cut 2 0) = x.length := by rw [q1]; exact zFv hx
  have hcut : s.cut x.length 2 = x := by
    have : (Rdr.mk s.bs (s.at_ + 2) s.e).cut x.length 0 = s.cut x.length 2 := by simp [Rdr.cut]
    rw [← this, q3]
  have hv : s.text m = (x, { s with at_ := s.at_ + (2 + x.length) }) := by
    unfold Rdr.text
    rw [if_neg (by simp [h.e]), if_neg (by omega), hnum, if_neg (by omega), if_neg (by omega), hcut]
  rw [hv]
  refine ⟨rfl, ?_⟩
  have q5 := q4
  simp only [Nat.add_assoc] at q5
  exact q5
theorem bytes_read {s : Rdr} {x t : List UInt8} (h : s.At (x ++ t)) : (s.bytes x.length).1 = x ∧ (s.bytes x.length).2.At t := by
  have hl := h.len
  rw [List.length_append] at hl
  obtain ⟨q1, q2⟩ := h.step (n := x.length) rfl
  have hv : s.bytes x.length = (x, { s with at_ := s.at_ + x.length }) := by
    unfold Rdr.bytes
    rw [if_neg (by simp [h.e]), if_neg (by omega), Int.toNat_natCast, if_neg (by omega), q1]
  rw [hv]
  exact ⟨rfl, q2⟩
theorem done_read {s : Rdr} (h : s.At []) : s.done = 0 := by
  have := h.len
  simp only [List.length_nil] at this
  have h2 : ¬ s.at_ < s.bs.length := by omega
  simp only [Rdr.done, h.e, h2, and_false, if_false]
theorem at_start (b : List UInt8) : (Rdr.mk b 0 0).At b := ⟨rfl, Nat.zero_le _, rfl⟩
theorem keepS_read {size : Nat} {more : Int} (h1 : 1 ≤ size) (h8 : size ≤ 8) {l : List Int} (hb : ∀ n ∈ l, 0 ≤ n + more ∧ n + more < 256 ^ size) {s : Rdr} {t : List UInt8} (h : s.At (zFk l size more ++ t)) :
    ∀ i, i ≤ l.length → (zFd size more s i).1 = l.take i ∧ (zFd size more s i).2.At (zFk (l.drop i) size more ++ t) := by
  intro i
  induction i with
  | zero => intro _; exact ⟨rfl, by rw [List.drop_zero]; exact h⟩
  | succ i ih =>
    intro hi
    obtain ⟨q1, q2⟩ := ih (by omega)
    have hil : i < l.length := by omega
    rw [List.drop_eq_getElem_cons hil] at q2
    have hc : zFk (l[i] :: l.drop (i + 1)) size more = zBm (l[i] + more).toNat size ++ zFk (l.drop (i + 1)) size more := rfl
    rw [hc, List.append_assoc] at q2
    have hbi := hb _ (List.getElem_mem hil)
    obtain ⟨r1, r2⟩ := zGn q2 h1 h8 (by
      have h0 := hbi.1
      exact (Int.toNat_lt h0).2 (by exact_mod_cast hbi.2))
    refine ⟨?_, r2⟩
    rw [zFd]
    simp only
    rw [r1, q1, ← List.take_append_getElem hil]
    congr 2
    have := hbi.1
    omega
theorem zKj {size : Nat} {more : Int} (h1 : 1 ≤ size) (h8 : size ≤ 8) {l : List Int} (hl : l.length ≤ 240) (hb : ∀ n ∈ l, 0 ≤ n + more ∧ n + more < 256 ^ size) {s : Rdr} {t : List UInt8} (h : s.At (zBm l.length 2 ++ (zFk l size more ++ t))) :
    (zEo s size more).1 = l ∧ (zEo s size more).2.At t := by
  obtain ⟨r1, r2⟩ := zGn h (by omega) (by omega) (by omega)
  have := keepS_read h1 h8 hb r2 l.length (Nat.le_refl _)
  rw [List.take_length, List.drop_length] at this
  rw [zEo]
  have e2 : ((s.num ((2 : Nat) : Int)).1) = (s.num 2).1 := rfl
  rw [e2] at r1
  rw [r1, Nat.min_eq_left (by omega)]
  exact ⟨this.1, this.2⟩
theorem prpS_read {l : List Prp} (hb : ∀ p ∈ l, p.name.length ≤ 24 ∧ p.value.length ≤ 64) {s : Rdr} {t : List UInt8} (h : s.At (zEm l ++ t)) :
    ∀ i, i ≤ l.length → (prpS s i).1 = l.take i ∧ (prpS s i).2.At (zEm (l.drop i) ++ t) := by
  intro i
  induction i with
  | zero => intro _; exact ⟨rfl, by rw [List.drop_zero]; exact h⟩
  | succ i ih =>
    intro hi
    obtain ⟨q1, q2⟩ := ih (by omega)
    have hil : i < l.length := by omega
    rw [List.drop_eq_getElem_cons hil] at q2
    have hc : zEm (l[i] :: l.drop (i + 1)) = (txt l[i].name ++ txt l[i].value) ++ zEm (l.drop (i + 1)) := rfl
    rw [hc, List.append_assoc, List.append_assoc] at q2
    have hbi := hb _ (List.getElem_mem hil)
    obtain ⟨r1, r2⟩ := zGj (m := 24) q2 (by omega) (by omega)
    obtain ⟨r3, r4⟩ := zGj (m := 64) r2 (by omega) (by omega)
    refine ⟨?_, r4⟩
    rw [prpS]
    simp only
    rw [r1, r3, q1, ← List.take_append_getElem hil]
theorem only1 {r : Rec} (h : r.kind = 1) (he : zCx (zDq r) = true) : r = { zDf 1 with name := r.name, many := r.many } := by
  rw [bare1 h] at he
  simp only [zCx, Bool.and_eq_true, decide_eq_true_eq] at he
  obtain ⟨kind, name, typ, frm, guid, origin, snap, props, object, at_, many, keep, data⟩ := r
  simp only at *
  simp only [zDf, Rec.mk.injEq]
  have h3 := he.2.2.2.2.2.2.2.2.2
  have p1 := List.length_eq_zero_iff.1 (show props.length = 0 by omega)
  have p2 := List.length_eq_zero_iff.1 (show keep.length = 0 by omega)
  have p3 := List.length_eq_zero_iff.1 (show data.length = 0 by omega)
  simp_all
theorem only2 {r : Rec} {k : Int} (h : r.kind = k) (hb : zDq r = { r with name := [], typ := 0, frm := 0, guid := 0, origin := 0, snap := [], props := [] }) (he : zCx (zDq r) = true) : r = { zDf k with name := r.name, typ := r.typ, frm := r.frm, guid := r.guid, origin := r.origin, snap := r.snap, props := r.props } := by
  rw [hb] at he
  simp only [zCx, Bool.and_eq_true, decide_eq_true_eq] at he
  obtain ⟨kind, name, typ, frm, guid, origin, snap, props, object, at_, many, keep, data⟩ := r
  simp only at *
  simp only [zDf, Rec.mk.injEq]
  have h3 := he.2.2.2.2.2.2.2.2.2
  simp only [List.length_nil] at h3
  have p2 := List.length_eq_zero_iff.1 (show keep.length = 0 by omega)
  have p3 := List.length_eq_zero_iff.1 (show data.length = 0 by omega)
  simp_all
theorem only3 {r : Rec} {k : Int} (h : r.kind = k) (hb : zDq r = { r with keep := [] }) (he : zCx (zDq r) = true) : r = { zDf k with keep := r.keep } := by
  rw [hb] at he
  simp only [zCx, Bool.and_eq_true, decide_eq_true_eq] at he
  obtain ⟨kind, name, typ, frm, guid, origin, snap, props, object, at_, many, keep, data⟩ := r
  simp only at *
  simp only [zDf, Rec.mk.injEq]
  have h3 := he.2.2.2.2.2.2.2.2.2
  simp only [List.length_nil] at h3
  have p1 := List.length_eq_zero_iff.1 (show props.length = 0 by omega)
  have p3 := List.length_eq_zero_iff.1 (show data.length = 0 by omega)
  simp_all
theorem only4 {r : Rec} {k : Int} (h : r.kind = k) (hb : zDq r = { r with object := 0, keep := [] }) (he : zCx (zDq r) = true) : r = { zDf k with object := r.object, keep := r.keep } := by
  rw [hb] at he
  simp only [zCx, Bool.and_eq_true, decide_eq_true_eq] at he
  obtain ⟨kind, name, typ, frm, guid, origin, snap, props, object, at_, many, keep, data⟩ := r
  simp only at *
  simp only [zDf, Rec.mk.injEq]
  have h3 := he.2.2.2.2.2.2.2.2.2
  simp only [List.length_nil] at h3
  have p1 := List.length_eq_zero_iff.1 (show props.length = 0 by omega)
  have p3 := List.length_eq_zero_iff.1 (show data.length = 0 by omega)
  simp_all
theorem only5 {r : Rec} {k : Int} (h : r.kind = k) (hb : zDq r = { r with object := 0, at_ := 0, data := [] }) (he : zCx (zDq r) = true) : r = { zDf k with object := r.object, at_ := r.at_, data := r.data } := by
  rw [hb] at he
  simp only [zCx, Bool.and_eq_true, decide_eq_true_eq] at he
  obtain ⟨kind, name, typ, frm, guid, origin, snap, props, object, at_, many, keep, data⟩ := r
  simp only at *
  simp only [zDf, Rec.mk.injEq]
  have h3 := he.2.2.2.2.2.2.2.2.2
  simp only [List.length_nil] at h3
  have p1 := List.length_eq_zero_iff.1 (show props.length = 0 by omega)
  have p2 := List.length_eq_zero_iff.1 (show keep.length = 0 by omega)
  simp_all
theorem only6 {r : Rec} {k : Int} (h : r.kind = k) (hb : zDq r = { r with many := 0 }) (he : zCx (zDq r) = true) : r = { zDf k with many := r.many } := by
  rw [hb] at he
  simp only [zCx, Bool.and_eq_true, decide_eq_true_eq] at he
  obtain ⟨kind, name, typ, frm, guid, origin, snap, props, object, at_, many, keep, data⟩ := r
  simp only at *
  simp only [zDf, Rec.mk.injEq]
  have h3 := he.2.2.2.2.2.2.2.2.2
  have p1 := List.length_eq_zero_iff.1 (show props.length = 0 by omega)
  have p2 := List.length_eq_zero_iff.1 (show keep.length = 0 by omega)
  have p3 := List.length_eq_zero_iff.1 (show data.length = 0 by omega)
  simp_all
end Go.Sl
namespace Go.Proofs.YtbogecljkaimdaaGreatDoor
open Go.Sl
set_option maxRecDepth 10000
theorem ckB_all {r : Rec} (h : ckB r = true) : inK r.kind ∧ mayK r.kind r = true ∧ zCx (zDq r) = true := by
  simp only [ckB, Bool.and_eq_true, decide_eq_true_eq] at h
  exact ⟨h.1, h.2.1, h.2.2⟩
theorem nrd1 {s : Rdr} {n : Nat} {t : List UInt8} (h : s.At (zBm n 1 ++ t)) (hn : n < 256) : (s.num 1).1 = n ∧ (s.num 1).2.At t := zGn (k := 1) h (by omega) (by omega) (by omega)
theorem nrd2 {s : Rdr} {n : Nat} {t : List UInt8} (h : s.At (zBm n 2 ++ t)) (hn : n < 65536) : (s.num 2).1 = n ∧ (s.num 2).2.At t := zGn (k := 2) h (by omega) (by omega) (by omega)
theorem nrd4 {s : Rdr} {n : Nat} {t : List UInt8} (h : s.At (zBm n 4 ++ t)) (hn : n < 4294967296) : (s.num 4).1 = n ∧ (s.num 4).2.At t := zGn (k := 4) h (by omega) (by omega) (by omega)
theorem nrd6 {s : Rdr} {n : Nat} {t : List UInt8} (h : s.At (zBm n 6 ++ t)) (hn : n < 281474976710656) : (s.num 6).1 = n ∧ (s.num 6).2.At t := zGn (k := 6) h (by omega) (by omega) (by omega)
theorem at_nil {s : Rdr} {b : List UInt8} (h : s.At b) : s.At (b ++ []) := by rwa [List.append_nil]
theorem take1_read {r : Rec} (hk : r.kind = 1) (h : may1 r = true) (he : zCx (zDq r) = true) {s : Rdr} (h0 : s.At (body1 r)) : (take1 1 s).1 = r ∧ (take1 1 s).2.At [] := by
  have hn := zLm h
  rw [body1] at h0
  obtain ⟨a1, a2⟩ := zGj (m := 24) h0 (by omega) (by omega)
  obtain ⟨b1, b2⟩ := nrd2 (at_nil a2) (by omega)
  refine ⟨?_, b2⟩
  conv => rhs; rw [only1 hk he]
  show ({ zDf 1 with name := (s.text 24).1, many := (((s.text 24).2.num 2).1 : Int) } : Rec) = _
  rw [a1, b1, Int.toNat_of_nonneg (by omega)]
theorem take3_read {r : Rec} (hk : r.kind = 3) (h : may3 r = true) (he : zCx (zDq r) = true) {s : Rdr} (h0 : s.At (body3 r)) : (take3 3 s).1 = r ∧ (take3 3 s).2.At [] := by
  have hn := zGg (l := r.keep) h
  rw [body3] at h0
  obtain ⟨a1, a2⟩ := zKj (size := 4) (more := 0) (l := r.keep) (t := []) (by omega) (by omega) hn.1 (fun n hq => by have := hn.2 n hq; omega) (by rw [List.append_nil]; exact h0)
  refine ⟨?_, a2⟩
  conv => rhs; rw [only3 hk (bare3 hk) he]
  show ({ zDf 3 with keep := (zEo s 4 0).1 } : Rec) = _
  rw [a1]
theorem take4_read {r : Rec} (hk : r.kind = 4) (h : may4 r = true) (he : zCx (zDq r) = true) {s : Rdr} (h0 : s.At (body4 r)) : (take4 4 s).1 = r ∧ (take4 4 s).2.At [] := by
  simp only [may4, Bool.and_eq_true, decide_eq_true_eq] at h
  have hn := zGg (l := r.keep) h.2.2
  rw [body4] at h0
  obtain ⟨b1, b2⟩ := nrd4 h0 (by omega)
  obtain ⟨a1, a2⟩ := zKj (size := 2) (more := 1) (l := r.keep) (t := []) (by omega) (by omega) hn.1 (fun n hq => by have := hn.2 n hq; omega) (by rw [List.append_nil]; exact b2)
  refine ⟨?_, a2⟩
  conv => rhs; rw [only4 hk (bare4 hk) he]
  show ({ zDf 4 with object := ((s.num 4).1 : Int), keep := (zEo (s.num 4).2 2 1).1 } : Rec) = _
  rw [a1, b1, Int.toNat_of_nonneg (by omega)]
theorem take5_read {r : Rec} (hk : r.kind = 5) (h : may5 r = true) (he : zCx (zDq r) = true) {s : Rdr} (h0 : s.At (zLk r)) : (zJn 5 s).1 = r ∧ (zJn 5 s).2.At [] := by
  simp only [may5, Bool.and_eq_true, decide_eq_true_eq] at h
  rw [zLk] at h0
  obtain ⟨a1, a2⟩ := nrd4 h0 (by omega)
  obtain ⟨b1, b2⟩ := nrd2 a2 (by omega)
  obtain ⟨c1, c2⟩ := nrd2 b2 (by omega)
  obtain ⟨d1, d2⟩ := bytes_read (at_nil c2)
  have e : (((s.num 4).2.num 2).2.num 2).2.bytes ((((s.num 4).2.num 2).2.num 2).1 : Int) = (((s.num 4).2.num 2).2.num 2).2.bytes (r.data.length : Int) := by rw [c1]
  refine ⟨?_, ?_⟩
  · conv => rhs; rw [only5 hk (bare5 hk) he]
    show ({ zDf 5 with object := ((s.num 4).1 : Int), at_ := (((s.num 4).2.num 2).1 : Int) - 1, data := ((((s.num 4).2.num 2).2.num 2).2.bytes ((((s.num 4).2.num 2).2.num 2).1 : Int)).1 } : Rec) = _
    rw [e, d1, a1, b1, Int.toNat_of_nonneg (by omega), Int.toNat_of_nonneg (by omega), Int.add_sub_cancel]
  · show ((((s.num 4).2.num 2).2.num 2).2.bytes ((((s.num 4).2.num 2).2.num 2).1 : Int)).2.At []
    rw [e]; exact d2
theorem zKk {r : Rec} {k : Int} (hk : r.kind = k) (hb : zDq r = { r with many := 0 }) (h : may6 r = true) (he : zCx (zDq r) = true) {s : Rdr} (h0 : s.At (zLl r)) : (take6 k s).1 = r ∧ (take6 k s).2.At [] := by
  simp only [may6, decide_eq_true_eq] at h
  rw [zLl] at h0
  obtain ⟨a1, a2⟩ := nrd4 (at_nil h0) (by omega)
  refine ⟨?_, a2⟩
  conv => rhs; rw [only6 hk hb he]
  show ({ zDf k with many := ((s.num 4).1 : Int) } : Rec) = _
  rw [a1, Int.toNat_of_nonneg (by omega)]
theorem take2_read {r : Rec} (hk : r.kind = 2) (h : begB r = true) (he : zCx (zDq r) = true) {s : Rdr} (h0 : s.At (zLj r)) : (zJv 2 s).1 = r ∧ (zJv 2 s).2.At [] := by
  obtain ⟨q1, q2, q3, q4, q5, q6, q7⟩ := (zDz r).1 h
  have h1 := beh_len q1
  have h2 := zHq q6
  have h3 := zLn q7
  rw [zLj] at h0
  obtain ⟨a1, a2⟩ := zGj (m := 240) h0 (by omega) (by omega)
  obtain ⟨b1, b2⟩ := nrd1 a2 (by omega)
  obtain ⟨c1, c2⟩ := nrd6 b2 (by omega)
  obtain ⟨d1, d2⟩ := nrd6 c2 (by omega)
  obtain ⟨e1, e2⟩ := nrd1 d2 (by omega)
  obtain ⟨f1, f2⟩ := zGj (m := 24) e2 (by omega) (by omega)
  obtain ⟨g1, g2⟩ := nrd1 f2 (by omega)
  have hp := prpS_read h3.2 (at_nil g2) r.props.length (Nat.le_refl _)
  rw [List.take_length, List.drop_length] at hp
  unfold zJv
  extract_lets n a b c d t m p
  have e : p = prpS m.2 r.props.length := by show prpS m.2 m.1 = _; rw [show m.1 = r.props.length from g1]
  have hp1 : p.1 = r.props := by rw [e]; exact hp.1
  have hp2 : p.2.At [] := by rw [e]; exact hp.2
  refine ⟨?_, hp2⟩
  conv => rhs; rw [only2 hk (bare2 hk) he]
  have a1 : n.1 = r.name := a1
  have b1 : a.1 = r.typ.toNat := b1
  have c1 : b.1 = r.frm.toNat := c1
  have d1 : c.1 = r.guid.toNat := d1
  have e1 : d.1 = r.origin.toNat := e1
  have f1 : t.1 = r.snap := f1
  show ({ zDf 2 with name := n.1, typ := a.1, frm := b.1, guid := c.1, origin := d.1, snap := t.1, props := p.1 } : Rec) = _
  rw [a1, b1, c1, d1, e1, f1, hp1, Int.toNat_of_nonneg (by omega), Int.toNat_of_nonneg (by omega), Int.toNat_of_nonneg (by omega), Int.toNat_of_nonneg (by omega)]
theorem takeK_read {r : Rec} (h : ckB r = true) {s : Rdr} (h0 : s.At (zDk r.kind r)) : (zEb r.kind s).1 = r ∧ (zEb r.kind s).2.At [] := by
  obtain ⟨h1, h2, h3⟩ := ckB_all h
  rcases zEd h1 with hk | hk | hk | hk | hk | hk | hk <;> rw [hk] at h2 h0 ⊢
  · exact take1_read hk h2 h3 h0
  · exact take2_read hk h2 h3 h0
  · exact take3_read hk h2 h3 h0
  · exact take4_read hk h2 h3 h0
  · exact take5_read hk h2 h3 h0
  · exact zKk hk (zLh (by omega) (by omega) (by omega) (by omega) (by omega)) h2 h3 h0
  · exact zKk hk (zLh (by omega) (by omega) (by omega) (by omega) (by omega)) h2 h3 h0
end Go.Proofs.YtbogecljkaimdaaGreatDoor
namespace Go.Proofs.YtbogecljkaimdaaGreatDoor
open Go.Sl
set_option maxRecDepth 10000
theorem zHc (k : Int) (body : List UInt8) (s : Fs) (t : List UInt8) : zCz k body s ++ t = zBm k.toNat 1 ++ (zBm body.length 4 ++ (body ++ (zFa (ownS k body s) ++ t))) := by
  simp only [zCz, zGh, headB, List.append_assoc]
theorem zGk {α : Type} {a b : List α} {n : Nat} (h : n = a.length) : (a ++ b).take n = a := by subst h; simp
theorem zJo {α : Type} {a b : List α} {n : Nat} (h : n = a.length) : (a ++ b).drop n = b := by subst h; simp
section
variable {k : Int} (hk : inK k) {body : List UInt8} (hb : body.length ≤ 2048) (s : Fs) (t : List UInt8)
include hk
theorem piece_kind : (zDd (zCz k body s ++ t) : Int) = k := by
  rw [zHc, zDd, zGk (by rw [zBa]), zFv (by have := hk.2; omega)]
  have := hk.1
  omega
include hb
omit hk in
theorem zGo : zBw (zCz k body s ++ t) = body.length := by
  rw [zHc, zBw, zJo (by rw [zBa]), zGk (by rw [zBa]), zFv (by omega)]
omit hk in
theorem piece_body : zEp (zCz k body s ++ t) = body := by
  rw [zEp, zGo hb, zHc, ← List.append_assoc, zJo (by simp [zBa]), zGk rfl]
omit hk in
theorem piece_take : (zCz k body s ++ t).take (5 + zBw (zCz k body s ++ t)) = zGh k body := by
  rw [zGo hb, zCz, List.append_assoc, zGk (by rw [zFb])]
omit hk in
theorem piece_own : ownD (zCz k body s ++ t) s = ownS k body s := by rw [ownD, piece_take hb, ownS]
omit hk in
theorem piece_seal : ((zCz k body s ++ t).drop (5 + zBw (zCz k body s ++ t))).take 32 = zFa (ownS k body s) := by
  rw [zGo hb, zCz, List.append_assoc, zJo (by rw [zFb]), zGk (by rw [zEj])]
end
theorem dec_enc {r : Rec} (h : ckB r = true) (s : Fs) (t : List UInt8) : decR (zCz r.kind (zDk r.kind r) s ++ t) s = (0, r, (zCz r.kind (zDk r.kind r) s).length, ownS r.kind (zDk r.kind r) s) := by
  obtain ⟨h1, h2, h3⟩ := ckB_all h
  have hb := body_le h1 h2
  have hl := zFc r.kind (zDk r.kind r) s
  have e1 := piece_kind h1 (body := zDk r.kind r) s t
  have e2 := zGo (k := r.kind) hb s t
  have e3 := piece_body (k := r.kind) hb s t
  have e4 := piece_own (k := r.kind) hb s t
  have e5 := piece_seal (k := r.kind) hb s t
  obtain ⟨q1, q2⟩ := takeK_read h (at_start (zDk r.kind r))
  have hlen : (zCz r.kind (zDk r.kind r) s ++ t).length = 37 + (zDk r.kind r).length + t.length := by rw [List.length_append, hl]
  rw [dec_6 (by omega) (by rw [e1]; exact h1) (by omega) (by omega) (by rw [e4, e5]) (by rw [e1, e3]; exact done_read q2) (by rw [e1, e3, q1]; exact h), e1, e2, e3, e4, q1, hl]
end Go.Proofs.YtbogecljkaimdaaGreatDoor
namespace Go.Sl
section
variable {P : Program} {a : Act} {o : Oper} {n : Nat} {e : List (Nat × Value)} {x y : Operand} {w : World}
theorem equalIn_str {t : TypeId} (d : Nat) (b c : List UInt8) (ht : P.underlying t = some .string) : (Op.equalIn (d + 1) t (str b) (str c)).run P w = .ok (decide (b = c)) w := by
  have h : ((⟨b.toArray⟩ : ByteArray) == ⟨c.toArray⟩) = decide (b = c) := by
    rw [beq_toListBytes, zIe, zIe, zIt]
  simp [Op.equalIn, run_underlying ht, h]
theorem equal_strs {t t0 : TypeId} {fs : Array Field} (ht : P.underlying t = some (.struct fs)) (hp : P.stoodInHeld t = false)
    (hf : fs.toList.map (fun f => (f.name == "_", f.type, f.offset)) = [(false, t0, 0), (false, t0, 1)]) (u0 : P.underlying t0 = some .string) (p q r s : List UInt8) :
    (Op.equalIn 10000 t (.agg #[str p, str q]) (.agg #[str r, str s])).run P w = .ok (decide (p = r) && decide (q = s)) w := by
  have hS : P.underlying t = some (.struct (P.fieldsOf t)) := by simp [Program.fieldsOf, ht]
  have hfs : P.fieldsOf t = fs := by simp [Program.fieldsOf, ht]
  rw [show (10000 : Nat) = 9999 + 1 from rfl, run_equalIn_agg w 9999 t _ _ hS hp, hfs]
  generalize fs.toList = l at hf
  have hl : l.length = 2 := by simpa using congrArg List.length hf
  match l, hl, hf with
  | [f0, f1], _, hf =>
    simp only [List.map_cons, List.map_nil, List.cons.injEq, Prod.mk.injEq, beq_eq_false_iff_ne, ne_eq, and_true] at hf
    obtain ⟨⟨n0, rfl, o0⟩, n1, h1, o1⟩ := hf
    have a0 : (isAgg f0.type).run P w = .ok false w := by simp [isAgg, run_underlying u0]
    have a1 : (isAgg f1.type).run P w = .ok false w := by rw [h1]; exact a0
    have key : ∀ b c : List UInt8, (Op.equalIn 9999 f0.type (str b) (str c)).run P w = .ok (decide (b = c)) w := fun b c => equalIn_str 9998 b c u0
    simp [Op.eqFields, n0, n1, o0, o1, h1, part, a0, key]
    by_cases h1 : p = r <;> by_cases h2 : q = s <;> simp [h1, h2]
theorem rn_neq_strs (E : Fr a n e) {t t' t0 : TypeId} {fs : Array Field} {p q r s : List UInt8} (ho : o.op = .binOp .neq t x y t') (hx : ev e x = some (.agg #[str p, str q])) (hy : ev e y = some (.agg #[str r, str s]))
    (ht : P.underlying t = some (.struct fs)) (hp : P.stoodInHeld t = false) (hm : P.eqGuardType P.depth t = false)
    (hf : fs.toList.map (fun f => (f.name == "_", f.type, f.offset)) = [(false, t0, 0), (false, t0, 1)]) (u0 : P.underlying t0 = some .string) : zAy P o a w (.bool !(decide (p = r) && decide (q = s))) w := by
  have h1 := run_eqGuard_agg (P := P) w .neq t x y #[str p, str q] #[str r, str s] hm
  have h2 : (binOp .neq t (.agg #[str p, str q]) (.agg #[str r, str s])).run P w = .ok (.bool !(decide (p = r) && decide (q = s))) w := by
    rw [run_neq_struct, equal_strs ht hp hf u0]; rfl
  simp [zAy, execOp, ho, E.eval hx, E.eval hy, h1, h2]
end
theorem zJp {α : Type} {l m : List α} {i : Nat} (h : l.take i = m.take i) (hi : i < l.length) (hj : i < m.length) (he : l[i] = m[i]) : l.take (i + 1) = m.take (i + 1) := by
  rw [← List.take_append_getElem hi, ← List.take_append_getElem hj, h, he]
end Go.Sl
namespace Go.Proofs.YtbogecljkaimdaaGreatDoor
open Go.Sl
set_option maxRecDepth 10000
theorem same_ret {Ca Cb : zAs} {ra rb : Rec} {pa ka da pb kb db : Value} (ha : RecR Ca ra pa ka da) (hq : RecR Cb rb pb kb db) (hsa : Sml ra) (As : List zAs) (ma : Ca ∈ As) (mb : Cb ∈ As) (w0 : World) (H : Hp w0 As) :
    Ret Tryz.prog 13 #[.agg (ra.cells pa ka da).toArray, .agg (rb.cells pb kb db).toArray] w0 fun u w' => ∃ z, u = .bool z ∧ (z = true ↔ ra = rb) ∧ Trs w0 w' As As := by
  have S := St.begin H
  have la := hsa.props
  have lb := hsa.keep
  obtain ⟨a1, c1, rfl⟩ := ha.pr.slice
  obtain ⟨a2, c2, rfl⟩ := ha.kr.slice
  obtain ⟨a3, c3, rfl⟩ := ha.dr.slice
  obtain ⟨a4, c4, rfl⟩ := hq.pr.slice
  obtain ⟨a5, c5, rfl⟩ := hq.kr.slice
  obtain ⟨a6, c6, rfl⟩ := hq.dr.slice
  refine zCg 136 Tryz.func13 rfl rfl (by decide) ?_; intro a E
  refine wp_seq_k ?_; intro K hK
  refine zAa ?_
  refine zAm rfl (zCk E S rfl rfl (by decide) rfl rfl ?_); clear E S a; intro a w b2 E S
  refine zAm rfl (zCk E S rfl rfl (by decide) rfl rfl ?_); clear E S a; intro a w b3 E S
  refine zp E (zAe E rfl rfl) ?_; clear E a; intro a E
  refine wpList_nil ?_
  refine zAf hK ?_; clear hK; clear K
  iterate 2 (refine wp_seq_k ?_; intro K hK)
  refine zAa ?_
  refine zp E (by first | exact zAg (q := 0) E rfl rfl rfl | exact zAh (q := 0) E rfl rfl rfl) ?_; clear E a; intro a E
  refine zp E (by first | exact zAq E rfl rfl rfl (S.get (by repeat (first | exact pk1 | apply zAc))) rfl | exact zAl E rfl rfl rfl (by assumption)) ?_; clear E a; intro a E
  refine zp E (by first | exact zAg (q := 0) E rfl rfl rfl | exact zAh (q := 0) E rfl rfl rfl) ?_; clear E a; intro a E
  refine zp E (by first | exact zAq E rfl rfl rfl (S.get (by repeat (first | exact pk1 | apply zAc))) rfl | exact zAl E rfl rfl rfl (by assumption)) ?_; clear E a; intro a E
  refine zp E (by first | exact zDa E rfl rfl rfl | exact zBc E rfl rfl rfl rfl | exact zBl E rfl rfl rfl rfl | exact zBg E rfl rfl rfl) ?_; clear E a; intro a E
  refine zp E (zAd E rfl rfl) ?_; clear E a; intro a E
  refine zAw E (t := 12) rfl (fun hb12 => ?_) (fun hb12 => ?_)
  · have hb12n := hb12; replace hb12n := Nrm.nrm hb12n
    iterate 5 (refine zn E hb12 ?_; clear E a; intro a E)
    refine zp E (zAk E rfl rfl hb12 rfl) ?_; clear E a; intro a E
    refine zp E (zAd E rfl rfl) ?_; clear E a; intro a E
    iterate 5 (refine zn E rfl ?_; clear E a; intro a E)
    refine zp E (zAk E rfl rfl rfl rfl) ?_; clear E a; intro a E
    refine zp E (zAd E rfl rfl) ?_; clear E a; intro a E
    iterate 5 (refine zn E rfl ?_; clear E a; intro a E)
    refine zp E (zAk E rfl rfl rfl rfl) ?_; clear E a; intro a E
    refine zp E (zAd E rfl rfl) ?_; clear E a; intro a E
    iterate 5 (refine zn E rfl ?_; clear E a; intro a E)
    refine zp E (zAk E rfl rfl rfl rfl) ?_; clear E a; intro a E
    refine zp E (zAd E rfl rfl) ?_; clear E a; intro a E
    iterate 5 (refine zn E rfl ?_; clear E a; intro a E)
    refine zp E (zAk E rfl rfl rfl rfl) ?_; clear E a; intro a E
    refine zp E (zAd E rfl rfl) ?_; clear E a; intro a E
    iterate 5 (refine zn E rfl ?_; clear E a; intro a E)
    refine zp E (zAk E rfl rfl rfl rfl) ?_; clear E a; intro a E
    refine wpList_nil ?_
    refine zAf hK ?_; clear hK; clear K
    refine zBy E rfl rfl ?_
    refine wp_seq_k ?_; intro K hK
    replace E := E.keep (e' := [(2, _), (3, _), (4, _)]) (zAb rfl (zAb rfl (zAb rfl (zAr))))
    refine zAa ?_
    refine zp E (zAe E rfl rfl) ?_; clear E a; intro a E
    refine wpList_nil ?_
    refine zAf hK ?_; clear hK; clear K
    refine wp_ret ?_
    refine zAv ?_; clear hK; clear K
    refine ret1 E rfl rfl ?_
    exact ⟨_, rfl, _, rfl, ⟨fun q => Bool.noConfusion q, by rintro rfl; first | exact absurd rfl hb12n | exact absurd rfl hb26n | exact absurd rfl hb33n | exact absurd rfl hb40n | exact absurd rfl hb47n | (simp at hb19; done) | (simp at hb; done)⟩, S.tail2.tr⟩
  · have hb12n := hb12; replace hb12n := Nrm.nrm hb12n
    refine zy E hb12 (by first | exact zAg (q := 1) E rfl rfl rfl | exact zAh (q := 1) E rfl rfl rfl) ?_; clear E a; intro a E
    refine zy E hb12 (by first | exact zAq E rfl rfl rfl (S.get (by repeat (first | exact pk1 | apply zAc))) rfl | exact zAl E rfl rfl rfl (by assumption)) ?_; clear E a; intro a E
    refine zy E hb12 (by first | exact zAg (q := 1) E rfl rfl rfl | exact zAh (q := 1) E rfl rfl rfl) ?_; clear E a; intro a E
    refine zy E hb12 (by first | exact zAq E rfl rfl rfl (S.get (by repeat (first | exact pk1 | apply zAc))) rfl | exact zAl E rfl rfl rfl (by assumption)) ?_; clear E a; intro a E
    refine zy E hb12 (by first | exact zDa E rfl rfl rfl | exact zBc E rfl rfl rfl rfl | exact zBl E rfl rfl rfl rfl | exact zBg E rfl rfl rfl) ?_; clear E a; intro a E
    refine zp E (zAj E rfl rfl hb12 rfl) ?_; clear E a; intro a E
    refine zp E (zAd E rfl rfl) ?_; clear E a; intro a E
    refine zAw E (t := 19) rfl (fun hb19 => ?_) (fun hb19 => ?_)
    · have hb19n := hb19; replace hb19n := Nrm.nrm hb19n
      iterate 5 (refine zn E hb19 ?_; clear E a; intro a E)
      refine zp E (zAk E rfl rfl hb19 rfl) ?_; clear E a; intro a E
      refine zp E (zAd E rfl rfl) ?_; clear E a; intro a E
      iterate 5 (refine zn E rfl ?_; clear E a; intro a E)
      refine zp E (zAk E rfl rfl rfl rfl) ?_; clear E a; intro a E
      refine zp E (zAd E rfl rfl) ?_; clear E a; intro a E
      iterate 5 (refine zn E rfl ?_; clear E a; intro a E)
      refine zp E (zAk E rfl rfl rfl rfl) ?_; clear E a; intro a E
      refine zp E (zAd E rfl rfl) ?_; clear E a; intro a E
      iterate 5 (refine zn E rfl ?_; clear E a; intro a E)
      refine zp E (zAk E rfl rfl rfl rfl) ?_; clear E a; intro a E
      refine zp E (zAd E rfl rfl) ?_; clear E a; intro a E
      iterate 5 (refine zn E rfl ?_; clear E a; intro a E)
      refine zp E (zAk E rfl rfl rfl rfl) ?_; clear E a; intro a E
      refine wpList_nil ?_
      refine zAf hK ?_; clear hK; clear K
      refine zBy E rfl rfl ?_
      refine wp_seq_k ?_; intro K hK
      replace E := E.keep (e' := [(2, _), (3, _), (4, _)]) (zAb rfl (zAb rfl (zAb rfl (zAr))))
      refine zAa ?_
      refine zp E (zAe E rfl rfl) ?_; clear E a; intro a E
      refine wpList_nil ?_
      refine zAf hK ?_; clear hK; clear K
      refine wp_ret ?_
      refine zAv ?_; clear hK; clear K
      refine ret1 E rfl rfl ?_
      exact ⟨_, rfl, _, rfl, ⟨fun q => Bool.noConfusion q, by rintro rfl; first | exact absurd rfl hb12n | exact absurd rfl hb26n | exact absurd rfl hb33n | exact absurd rfl hb40n | exact absurd rfl hb47n | (simp at hb19; done) | (simp at hb; done)⟩, S.tail2.tr⟩
    · have hb19n := hb19; replace hb19n := Nrm.nrm hb19n
      refine zy E hb19 (by first | exact zAg (q := 2) E rfl rfl rfl | exact zAh (q := 2) E rfl rfl rfl) ?_; clear E a; intro a E
      refine zy E hb19 (by first | exact zAq E rfl rfl rfl (S.get (by repeat (first | exact pk1 | apply zAc))) rfl | exact zAl E rfl rfl rfl (by assumption)) ?_; clear E a; intro a E
      refine zy E hb19 (by first | exact zAg (q := 2) E rfl rfl rfl | exact zAh (q := 2) E rfl rfl rfl) ?_; clear E a; intro a E
      refine zy E hb19 (by first | exact zAq E rfl rfl rfl (S.get (by repeat (first | exact pk1 | apply zAc))) rfl | exact zAl E rfl rfl rfl (by assumption)) ?_; clear E a; intro a E
      refine zy E hb19 (by first | exact zDa E rfl rfl rfl | exact zBc E rfl rfl rfl rfl | exact zBl E rfl rfl rfl rfl | exact zBg E rfl rfl rfl) ?_; clear E a; intro a E
      refine zp E (zAj E rfl rfl hb19 rfl) ?_; clear E a; intro a E
      refine zp E (zAd E rfl rfl) ?_; clear E a; intro a E
      refine zAw E (t := 26) rfl (fun hb26 => ?_) (fun hb26 => ?_)
      · have hb26n := hb26; replace hb26n := Nrm.nrm hb26n
        iterate 5 (refine zn E hb26 ?_; clear E a; intro a E)
        refine zp E (zAk E rfl rfl hb26 rfl) ?_; clear E a; intro a E
        refine zp E (zAd E rfl rfl) ?_; clear E a; intro a E
        iterate 5 (refine zn E rfl ?_; clear E a; intro a E)
        refine zp E (zAk E rfl rfl rfl rfl) ?_; clear E a; intro a E
        refine zp E (zAd E rfl rfl) ?_; clear E a; intro a E
        iterate 5 (refine zn E rfl ?_; clear E a; intro a E)
        refine zp E (zAk E rfl rfl rfl rfl) ?_; clear E a; intro a E
        refine zp E (zAd E rfl rfl) ?_; clear E a; intro a E
        iterate 5 (refine zn E rfl ?_; clear E a; intro a E)
        refine zp E (zAk E rfl rfl rfl rfl) ?_; clear E a; intro a E
        refine wpList_nil ?_
        refine zAf hK ?_; clear hK; clear K
        refine zBy E rfl rfl ?_
        refine wp_seq_k ?_; intro K hK
        replace E := E.keep (e' := [(2, _), (3, _), (4, _)]) (zAb rfl (zAb rfl (zAb rfl (zAr))))
        refine zAa ?_
        refine zp E (zAe E rfl rfl) ?_; clear E a; intro a E
        refine wpList_nil ?_
        refine zAf hK ?_; clear hK; clear K
        refine wp_ret ?_
        refine zAv ?_; clear hK; clear K
        refine ret1 E rfl rfl ?_
        exact ⟨_, rfl, _, rfl, ⟨fun q => Bool.noConfusion q, by rintro rfl; first | exact absurd rfl hb12n | exact absurd rfl hb26n | exact absurd rfl hb33n | exact absurd rfl hb40n | exact absurd rfl hb47n | (simp at hb19; done) | (simp at hb; done)⟩, S.tail2.tr⟩
      · have hb26n := hb26; replace hb26n := Nrm.nrm hb26n
        refine zy E hb26 (by first | exact zAg (q := 3) E rfl rfl rfl | exact zAh (q := 3) E rfl rfl rfl) ?_; clear E a; intro a E
        refine zy E hb26 (by first | exact zAq E rfl rfl rfl (S.get (by repeat (first | exact pk1 | apply zAc))) rfl | exact zAl E rfl rfl rfl (by assumption)) ?_; clear E a; intro a E
        refine zy E hb26 (by first | exact zAg (q := 3) E rfl rfl rfl | exact zAh (q := 3) E rfl rfl rfl) ?_; clear E a; intro a E
        refine zy E hb26 (by first | exact zAq E rfl rfl rfl (S.get (by repeat (first | exact pk1 | apply zAc))) rfl | exact zAl E rfl rfl rfl (by assumption)) ?_; clear E a; intro a E
        refine zy E hb26 (by first | exact zDa E rfl rfl rfl | exact zBc E rfl rfl rfl rfl | exact zBl E rfl rfl rfl rfl | exact zBg E rfl rfl rfl) ?_; clear E a; intro a E
        refine zp E (zAj E rfl rfl hb26 rfl) ?_; clear E a; intro a E
        refine zp E (zAd E rfl rfl) ?_; clear E a; intro a E
        refine zAw E (t := 33) rfl (fun hb33 => ?_) (fun hb33 => ?_)
        · have hb33n := hb33; replace hb33n := Nrm.nrm hb33n
          iterate 5 (refine zn E hb33 ?_; clear E a; intro a E)
          refine zp E (zAk E rfl rfl hb33 rfl) ?_; clear E a; intro a E
          refine zp E (zAd E rfl rfl) ?_; clear E a; intro a E
          iterate 5 (refine zn E rfl ?_; clear E a; intro a E)
          refine zp E (zAk E rfl rfl rfl rfl) ?_; clear E a; intro a E
          refine zp E (zAd E rfl rfl) ?_; clear E a; intro a E
          iterate 5 (refine zn E rfl ?_; clear E a; intro a E)
          refine zp E (zAk E rfl rfl rfl rfl) ?_; clear E a; intro a E
          refine wpList_nil ?_
          refine zAf hK ?_; clear hK; clear K
          refine zBy E rfl rfl ?_
          refine wp_seq_k ?_; intro K hK
          replace E := E.keep (e' := [(2, _), (3, _), (4, _)]) (zAb rfl (zAb rfl (zAb rfl (zAr))))
          refine zAa ?_
          refine zp E (zAe E rfl rfl) ?_; clear E a; intro a E
          refine wpList_nil ?_
          refine zAf hK ?_; clear hK; clear K
          refine wp_ret ?_
          refine zAv ?_; clear hK; clear K
          refine ret1 E rfl rfl ?_
          exact ⟨_, rfl, _, rfl, ⟨fun q => Bool.noConfusion q, by rintro rfl; first | exact absurd rfl hb12n | exact absurd rfl hb26n | exact absurd rfl hb33n | exact absurd rfl hb40n | exact absurd rfl hb47n | (simp at hb19; done) | (simp at hb; done)⟩, S.tail2.tr⟩
        · have hb33n := hb33; replace hb33n := Nrm.nrm hb33n
          refine zy E hb33 (by first | exact zAg (q := 4) E rfl rfl rfl | exact zAh (q := 4) E rfl rfl rfl) ?_; clear E a; intro a E
          refine zy E hb33 (by first | exact zAq E rfl rfl rfl (S.get (by repeat (first | exact pk1 | apply zAc))) rfl | exact zAl E rfl rfl rfl (by assumption)) ?_; clear E a; intro a E
          refine zy E hb33 (by first | exact zAg (q := 4) E rfl rfl rfl | exact zAh (q := 4) E rfl rfl rfl) ?_; clear E a; intro a E
          refine zy E hb33 (by first | exact zAq E rfl rfl rfl (S.get (by repeat (first | exact pk1 | apply zAc))) rfl | exact zAl E rfl rfl rfl (by assumption)) ?_; clear E a; intro a E
          refine zy E hb33 (by first | exact zDa E rfl rfl rfl | exact zBc E rfl rfl rfl rfl | exact zBl E rfl rfl rfl rfl | exact zBg E rfl rfl rfl) ?_; clear E a; intro a E
          refine zp E (zAj E rfl rfl hb33 rfl) ?_; clear E a; intro a E
          refine zp E (zAd E rfl rfl) ?_; clear E a; intro a E
          refine zAw E (t := 40) rfl (fun hb40 => ?_) (fun hb40 => ?_)
          · have hb40n := hb40; replace hb40n := Nrm.nrm hb40n
            iterate 5 (refine zn E hb40 ?_; clear E a; intro a E)
            refine zp E (zAk E rfl rfl hb40 rfl) ?_; clear E a; intro a E
            refine zp E (zAd E rfl rfl) ?_; clear E a; intro a E
            iterate 5 (refine zn E rfl ?_; clear E a; intro a E)
            refine zp E (zAk E rfl rfl rfl rfl) ?_; clear E a; intro a E
            refine wpList_nil ?_
            refine zAf hK ?_; clear hK; clear K
            refine zBy E rfl rfl ?_
            refine wp_seq_k ?_; intro K hK
            replace E := E.keep (e' := [(2, _), (3, _), (4, _)]) (zAb rfl (zAb rfl (zAb rfl (zAr))))
            refine zAa ?_
            refine zp E (zAe E rfl rfl) ?_; clear E a; intro a E
            refine wpList_nil ?_
            refine zAf hK ?_; clear hK; clear K
            refine wp_ret ?_
            refine zAv ?_; clear hK; clear K
            refine ret1 E rfl rfl ?_
            exact ⟨_, rfl, _, rfl, ⟨fun q => Bool.noConfusion q, by rintro rfl; first | exact absurd rfl hb12n | exact absurd rfl hb26n | exact absurd rfl hb33n | exact absurd rfl hb40n | exact absurd rfl hb47n | (simp at hb19; done) | (simp at hb; done)⟩, S.tail2.tr⟩
          · have hb40n := hb40; replace hb40n := Nrm.nrm hb40n
            refine zy E hb40 (by first | exact zAg (q := 5) E rfl rfl rfl | exact zAh (q := 5) E rfl rfl rfl) ?_; clear E a; intro a E
            refine zy E hb40 (by first | exact zAq E rfl rfl rfl (S.get (by repeat (first | exact pk1 | apply zAc))) rfl | exact zAl E rfl rfl rfl (by assumption)) ?_; clear E a; intro a E
            refine zy E hb40 (by first | exact zAg (q := 5) E rfl rfl rfl | exact zAh (q := 5) E rfl rfl rfl) ?_; clear E a; intro a E
            refine zy E hb40 (by first | exact zAq E rfl rfl rfl (S.get (by repeat (first | exact pk1 | apply zAc))) rfl | exact zAl E rfl rfl rfl (by assumption)) ?_; clear E a; intro a E
            refine zy E hb40 (by first | exact zDa E rfl rfl rfl | exact zBc E rfl rfl rfl rfl | exact zBl E rfl rfl rfl rfl | exact zBg E rfl rfl rfl) ?_; clear E a; intro a E
            refine zp E (zAj E rfl rfl hb40 rfl) ?_; clear E a; intro a E
            refine zp E (zAd E rfl rfl) ?_; clear E a; intro a E
            refine zAw E (t := 47) rfl (fun hb47 => ?_) (fun hb47 => ?_)
            · have hb47n := hb47; replace hb47n := Nrm.nrm hb47n
              iterate 5 (refine zn E hb47 ?_; clear E a; intro a E)
              refine zp E (zAk E rfl rfl hb47 rfl) ?_; clear E a; intro a E
              refine wpList_nil ?_
              refine zAf hK ?_; clear hK; clear K
              refine zBy E rfl rfl ?_
              refine wp_seq_k ?_; intro K hK
              replace E := E.keep (e' := [(2, _), (3, _), (4, _)]) (zAb rfl (zAb rfl (zAb rfl (zAr))))
              refine zAa ?_
              refine zp E (zAe E rfl rfl) ?_; clear E a; intro a E
              refine wpList_nil ?_
              refine zAf hK ?_; clear hK; clear K
              refine wp_ret ?_
              refine zAv ?_; clear hK; clear K
              refine ret1 E rfl rfl ?_
              exact ⟨_, rfl, _, rfl, ⟨fun q => Bool.noConfusion q, by rintro rfl; first | exact absurd rfl hb12n | exact absurd rfl hb26n | exact absurd rfl hb33n | exact absurd rfl hb40n | exact absurd rfl hb47n | (simp at hb19; done) | (simp at hb; done)⟩, S.tail2.tr⟩
            · have hb47n := hb47; replace hb47n := Nrm.nrm hb47n
              refine zy E hb47 (by first | exact zAg (q := 6) E rfl rfl rfl | exact zAh (q := 6) E rfl rfl rfl) ?_; clear E a; intro a E
              refine zy E hb47 (by first | exact zAq E rfl rfl rfl (S.get (by repeat (first | exact pk1 | apply zAc))) rfl | exact zAl E rfl rfl rfl (by assumption)) ?_; clear E a; intro a E
              refine zy E hb47 (by first | exact zAg (q := 6) E rfl rfl rfl | exact zAh (q := 6) E rfl rfl rfl) ?_; clear E a; intro a E
              refine zy E hb47 (by first | exact zAq E rfl rfl rfl (S.get (by repeat (first | exact pk1 | apply zAc))) rfl | exact zAl E rfl rfl rfl (by assumption)) ?_; clear E a; intro a E
              refine zy E hb47 (by first | exact zDa E rfl rfl rfl | exact zBc E rfl rfl rfl rfl | exact zBl E rfl rfl rfl rfl | exact zBg E rfl rfl rfl) ?_; clear E a; intro a E
              refine zp E (zAj E rfl rfl hb47 rfl) ?_; clear E a; intro a E
              refine wpList_nil ?_
              refine zAf hK ?_; clear hK; clear K
              refine zBj E rfl (fun hb => ?_) (fun hb => ?_)
              · replace hb := Nrm.nrm hb
                refine wp_seq_k ?_; intro K hK
                replace E := E.keep (e' := [(2, _), (3, _), (4, _)]) (zAb rfl (zAb rfl (zAb rfl (zAr))))
                refine zAa ?_
                refine zp E (zAe E rfl rfl) ?_; clear E a; intro a E
                refine wpList_nil ?_
                refine zAf hK ?_; clear hK; clear K
                refine wp_ret ?_
                refine zAv ?_; clear hK; clear K
                refine ret1 E rfl rfl ?_
                exact ⟨_, rfl, _, rfl, ⟨fun q => Bool.noConfusion q, by rintro rfl; first | exact absurd rfl hb12n | exact absurd rfl hb26n | exact absurd rfl hb33n | exact absurd rfl hb40n | exact absurd rfl hb47n | (simp at hb19; done) | (simp at hb; done)⟩, S.tail2.tr⟩
              · replace hb := Nrm.nrm hb
                have hsn := hb
                refine wp_skip ?_
                refine zAf hK ?_; clear hK; clear K
                iterate 2 (refine wp_seq_k ?_; intro K hK)
                replace E := E.keep (e' := [(2, _), (3, _), (4, _)]) (zAb rfl (zAb rfl (zAb rfl (zAr))))
                refine zAa ?_
                refine zp E (by first | exact zAg (q := 8) E rfl rfl rfl | exact zAh (q := 8) E rfl rfl rfl) ?_; clear E a; intro a E
                refine zp E (by first | exact zAq E rfl rfl rfl (S.get (by repeat (first | exact pk1 | apply zAc))) rfl | exact zAl E rfl rfl rfl (by assumption)) ?_; clear E a; intro a E
                refine zp E (by first | exact zAg (q := 8) E rfl rfl rfl | exact zAh (q := 8) E rfl rfl rfl) ?_; clear E a; intro a E
                refine zp E (by first | exact zAq E rfl rfl rfl (S.get (by repeat (first | exact pk1 | apply zAc))) rfl | exact zAl E rfl rfl rfl (by assumption)) ?_; clear E a; intro a E
                refine zp E (by first | exact zDa E rfl rfl rfl | exact zBc E rfl rfl rfl rfl | exact zBl E rfl rfl rfl rfl | exact zBg E rfl rfl rfl) ?_; clear E a; intro a E
                refine zp E (zAd E rfl rfl) ?_; clear E a; intro a E
                refine zAw E (t := 59) rfl (fun hb59 => ?_) (fun hb59 => ?_)
                · have hb59n := hb59; replace hb59n := Nrm.nrm hb59n
                  iterate 5 (refine zn E hb59 ?_; clear E a; intro a E)
                  refine zp E (zAk E rfl rfl hb59 rfl) ?_; clear E a; intro a E
                  refine zp E (zAd E rfl rfl) ?_; clear E a; intro a E
                  iterate 5 (refine zn E rfl ?_; clear E a; intro a E)
                  refine zp E (zAk E rfl rfl rfl rfl) ?_; clear E a; intro a E
                  refine zp E (zAd E rfl rfl) ?_; clear E a; intro a E
                  iterate 7 (refine zn E rfl ?_; clear E a; intro a E)
                  refine zp E (zAk E rfl rfl rfl rfl) ?_; clear E a; intro a E
                  refine zp E (zAd E rfl rfl) ?_; clear E a; intro a E
                  iterate 7 (refine zn E rfl ?_; clear E a; intro a E)
                  refine zp E (zAk E rfl rfl rfl rfl) ?_; clear E a; intro a E
                  refine zp E (zAd E rfl rfl) ?_; clear E a; intro a E
                  iterate 7 (refine zn E rfl ?_; clear E a; intro a E)
                  refine zp E (zAk E rfl rfl rfl rfl) ?_; clear E a; intro a E
                  refine wpList_nil ?_
                  refine zAf hK ?_; clear hK; clear K
                  refine zBy E rfl rfl ?_
                  refine wp_seq_k ?_; intro K hK
                  replace E := E.keep (e' := [(2, _), (3, _), (4, _)]) (zAb rfl (zAb rfl (zAb rfl (zAr))))
                  refine zAa ?_
                  refine zp E (zAe E rfl rfl) ?_; clear E a; intro a E
                  refine wpList_nil ?_
                  refine zAf hK ?_; clear hK; clear K
                  refine wp_ret ?_
                  refine zAv ?_; clear hK; clear K
                  refine ret1 E rfl rfl ?_
                  exact ⟨_, rfl, _, rfl, ⟨fun q => Bool.noConfusion q, by rintro rfl; first | exact absurd rfl hb59n | exact absurd rfl hb66n | exact absurd rfl hb73n | exact absurd rfl hb82n | exact absurd rfl hb91n | (simp at hb; done)⟩, S.tail2.tr⟩
                · have hb59n := hb59; replace hb59n := Nrm.nrm hb59n
                  refine zy E hb59 (by first | exact zAg (q := 9) E rfl rfl rfl | exact zAh (q := 9) E rfl rfl rfl) ?_; clear E a; intro a E
                  refine zy E hb59 (by first | exact zAq E rfl rfl rfl (S.get (by repeat (first | exact pk1 | apply zAc))) rfl | exact zAl E rfl rfl rfl (by assumption)) ?_; clear E a; intro a E
                  refine zy E hb59 (by first | exact zAg (q := 9) E rfl rfl rfl | exact zAh (q := 9) E rfl rfl rfl) ?_; clear E a; intro a E
                  refine zy E hb59 (by first | exact zAq E rfl rfl rfl (S.get (by repeat (first | exact pk1 | apply zAc))) rfl | exact zAl E rfl rfl rfl (by assumption)) ?_; clear E a; intro a E
                  refine zy E hb59 (by first | exact zDa E rfl rfl rfl | exact zBc E rfl rfl rfl rfl | exact zBl E rfl rfl rfl rfl | exact zBg E rfl rfl rfl) ?_; clear E a; intro a E
                  refine zp E (zAj E rfl rfl hb59 rfl) ?_; clear E a; intro a E
                  refine zp E (zAd E rfl rfl) ?_; clear E a; intro a E
                  refine zAw E (t := 66) rfl (fun hb66 => ?_) (fun hb66 => ?_)
                  · have hb66n := hb66; replace hb66n := Nrm.nrm hb66n
                    iterate 5 (refine zn E hb66 ?_; clear E a; intro a E)
                    refine zp E (zAk E rfl rfl hb66 rfl) ?_; clear E a; intro a E
                    refine zp E (zAd E rfl rfl) ?_; clear E a; intro a E
                    iterate 7 (refine zn E rfl ?_; clear E a; intro a E)
                    refine zp E (zAk E rfl rfl rfl rfl) ?_; clear E a; intro a E
                    refine zp E (zAd E rfl rfl) ?_; clear E a; intro a E
                    iterate 7 (refine zn E rfl ?_; clear E a; intro a E)
                    refine zp E (zAk E rfl rfl rfl rfl) ?_; clear E a; intro a E
                    refine zp E (zAd E rfl rfl) ?_; clear E a; intro a E
                    iterate 7 (refine zn E rfl ?_; clear E a; intro a E)
                    refine zp E (zAk E rfl rfl rfl rfl) ?_; clear E a; intro a E
                    refine wpList_nil ?_
                    refine zAf hK ?_; clear hK; clear K
                    refine zBy E rfl rfl ?_
                    refine wp_seq_k ?_; intro K hK
                    replace E := E.keep (e' := [(2, _), (3, _), (4, _)]) (zAb rfl (zAb rfl (zAb rfl (zAr))))
                    refine zAa ?_
                    refine zp E (zAe E rfl rfl) ?_; clear E a; intro a E
                    refine wpList_nil ?_
                    refine zAf hK ?_; clear hK; clear K
                    refine wp_ret ?_
                    refine zAv ?_; clear hK; clear K
                    refine ret1 E rfl rfl ?_
                    exact ⟨_, rfl, _, rfl, ⟨fun q => Bool.noConfusion q, by rintro rfl; first | exact absurd rfl hb59n | exact absurd rfl hb66n | exact absurd rfl hb73n | exact absurd rfl hb82n | exact absurd rfl hb91n | (simp at hb; done)⟩, S.tail2.tr⟩
                  · have hb66n := hb66; replace hb66n := Nrm.nrm hb66n
                    refine zy E hb66 (by first | exact zAg (q := 10) E rfl rfl rfl | exact zAh (q := 10) E rfl rfl rfl) ?_; clear E a; intro a E
                    refine zy E hb66 (by first | exact zAq E rfl rfl rfl (S.get (by repeat (first | exact pk1 | apply zAc))) rfl | exact zAl E rfl rfl rfl (by assumption)) ?_; clear E a; intro a E
                    refine zy E hb66 (by first | exact zAg (q := 10) E rfl rfl rfl | exact zAh (q := 10) E rfl rfl rfl) ?_; clear E a; intro a E
                    refine zy E hb66 (by first | exact zAq E rfl rfl rfl (S.get (by repeat (first | exact pk1 | apply zAc))) rfl | exact zAl E rfl rfl rfl (by assumption)) ?_; clear E a; intro a E
                    refine zy E hb66 (by first | exact zDa E rfl rfl rfl | exact zBc E rfl rfl rfl rfl | exact zBl E rfl rfl rfl rfl | exact zBg E rfl rfl rfl) ?_; clear E a; intro a E
                    refine zp E (zAj E rfl rfl hb66 rfl) ?_; clear E a; intro a E
                    refine zp E (zAd E rfl rfl) ?_; clear E a; intro a E
                    refine zAw E (t := 73) rfl (fun hb73 => ?_) (fun hb73 => ?_)
                    · have hb73n := hb73; replace hb73n := Nrm.nrm hb73n
                      iterate 7 (refine zn E hb73 ?_; clear E a; intro a E)
                      refine zp E (zAk E rfl rfl hb73 rfl) ?_; clear E a; intro a E
                      refine zp E (zAd E rfl rfl) ?_; clear E a; intro a E
                      iterate 7 (refine zn E rfl ?_; clear E a; intro a E)
                      refine zp E (zAk E rfl rfl rfl rfl) ?_; clear E a; intro a E
                      refine zp E (zAd E rfl rfl) ?_; clear E a; intro a E
                      iterate 7 (refine zn E rfl ?_; clear E a; intro a E)
                      refine zp E (zAk E rfl rfl rfl rfl) ?_; clear E a; intro a E
                      refine wpList_nil ?_
                      refine zAf hK ?_; clear hK; clear K
                      refine zBy E rfl rfl ?_
                      refine wp_seq_k ?_; intro K hK
                      replace E := E.keep (e' := [(2, _), (3, _), (4, _)]) (zAb rfl (zAb rfl (zAb rfl (zAr))))
                      refine zAa ?_
                      refine zp E (zAe E rfl rfl) ?_; clear E a; intro a E
                      refine wpList_nil ?_
                      refine zAf hK ?_; clear hK; clear K
                      refine wp_ret ?_
                      refine zAv ?_; clear hK; clear K
                      refine ret1 E rfl rfl ?_
                      exact ⟨_, rfl, _, rfl, ⟨fun q => Bool.noConfusion q, by rintro rfl; first | exact absurd rfl hb59n | exact absurd rfl hb66n | exact absurd rfl hb73n | exact absurd rfl hb82n | exact absurd rfl hb91n | (simp at hb; done)⟩, S.tail2.tr⟩
                    · have hb73n := hb73; replace hb73n := Nrm.nrm hb73n
                      refine zy E hb73 (by first | exact zAg (q := 7) E rfl rfl rfl | exact zAh (q := 7) E rfl rfl rfl) ?_; clear E a; intro a E
                      refine zy E hb73 (by first | exact zAq E rfl rfl rfl (S.get (by repeat (first | exact pk1 | apply zAc))) rfl | exact zAl E rfl rfl rfl (by assumption)) ?_; clear E a; intro a E
                      refine zy E hb73 (by first | exact zBv E rfl rfl rfl | exact zAx E rfl rfl rfl | exact zAp E rfl rfl rfl) ?_; clear E a; intro a E
                      refine zy E hb73 (by first | exact zAg (q := 7) E rfl rfl rfl | exact zAh (q := 7) E rfl rfl rfl) ?_; clear E a; intro a E
                      refine zy E hb73 (by first | exact zAq E rfl rfl rfl (S.get (by repeat (first | exact pk1 | apply zAc))) rfl | exact zAl E rfl rfl rfl (by assumption)) ?_; clear E a; intro a E
                      refine zy E hb73 (by first | exact zBv E rfl rfl rfl | exact zAx E rfl rfl rfl | exact zAp E rfl rfl rfl) ?_; clear E a; intro a E
                      refine zy E hb73 (by first | exact zDa E rfl rfl rfl | exact zBc E rfl rfl rfl rfl | exact zBl E rfl rfl rfl rfl | exact zBg E rfl rfl rfl) ?_; clear E a; intro a E
                      refine zp E (zAj E rfl rfl hb73 rfl) ?_; clear E a; intro a E
                      refine zp E (zAd E rfl rfl) ?_; clear E a; intro a E
                      refine zAw E (t := 82) rfl (fun hb82 => ?_) (fun hb82 => ?_)
                      · have hb82n := hb82; replace hb82n := Nrm.nrm hb82n
                        iterate 7 (refine zn E hb82 ?_; clear E a; intro a E)
                        refine zp E (zAk E rfl rfl hb82 rfl) ?_; clear E a; intro a E
                        refine zp E (zAd E rfl rfl) ?_; clear E a; intro a E
                        iterate 7 (refine zn E rfl ?_; clear E a; intro a E)
                        refine zp E (zAk E rfl rfl rfl rfl) ?_; clear E a; intro a E
                        refine wpList_nil ?_
                        refine zAf hK ?_; clear hK; clear K
                        refine zBy E rfl rfl ?_
                        refine wp_seq_k ?_; intro K hK
                        replace E := E.keep (e' := [(2, _), (3, _), (4, _)]) (zAb rfl (zAb rfl (zAb rfl (zAr))))
                        refine zAa ?_
                        refine zp E (zAe E rfl rfl) ?_; clear E a; intro a E
                        refine wpList_nil ?_
                        refine zAf hK ?_; clear hK; clear K
                        refine wp_ret ?_
                        refine zAv ?_; clear hK; clear K
                        refine ret1 E rfl rfl ?_
                        exact ⟨_, rfl, _, rfl, ⟨fun q => Bool.noConfusion q, by rintro rfl; first | exact absurd rfl hb59n | exact absurd rfl hb66n | exact absurd rfl hb73n | exact absurd rfl hb82n | exact absurd rfl hb91n | (simp at hb; done)⟩, S.tail2.tr⟩
                      · have hb82n := hb82; replace hb82n := Nrm.nrm hb82n
                        refine zy E hb82 (by first | exact zAg (q := 11) E rfl rfl rfl | exact zAh (q := 11) E rfl rfl rfl) ?_; clear E a; intro a E
                        refine zy E hb82 (by first | exact zAq E rfl rfl rfl (S.get (by repeat (first | exact pk1 | apply zAc))) rfl | exact zAl E rfl rfl rfl (by assumption)) ?_; clear E a; intro a E
                        refine zy E hb82 (by first | exact zBv E rfl rfl rfl | exact zAx E rfl rfl rfl | exact zAp E rfl rfl rfl) ?_; clear E a; intro a E
                        refine zy E hb82 (by first | exact zAg (q := 11) E rfl rfl rfl | exact zAh (q := 11) E rfl rfl rfl) ?_; clear E a; intro a E
                        refine zy E hb82 (by first | exact zAq E rfl rfl rfl (S.get (by repeat (first | exact pk1 | apply zAc))) rfl | exact zAl E rfl rfl rfl (by assumption)) ?_; clear E a; intro a E
                        refine zy E hb82 (by first | exact zBv E rfl rfl rfl | exact zAx E rfl rfl rfl | exact zAp E rfl rfl rfl) ?_; clear E a; intro a E
                        refine zy E hb82 (by first | exact zDa E rfl rfl rfl | exact zBc E rfl rfl rfl rfl | exact zBl E rfl rfl rfl rfl | exact zBg E rfl rfl rfl) ?_; clear E a; intro a E
                        refine zp E (zAj E rfl rfl hb82 rfl) ?_; clear E a; intro a E
                        refine zp E (zAd E rfl rfl) ?_; clear E a; intro a E
                        refine zAw E (t := 91) rfl (fun hb91 => ?_) (fun hb91 => ?_)
                        · have hb91n := hb91; replace hb91n := Nrm.nrm hb91n
                          iterate 7 (refine zn E hb91 ?_; clear E a; intro a E)
                          refine zp E (zAk E rfl rfl hb91 rfl) ?_; clear E a; intro a E
                          refine wpList_nil ?_
                          refine zAf hK ?_; clear hK; clear K
                          refine zBy E rfl rfl ?_
                          refine wp_seq_k ?_; intro K hK
                          replace E := E.keep (e' := [(2, _), (3, _), (4, _)]) (zAb rfl (zAb rfl (zAb rfl (zAr))))
                          refine zAa ?_
                          refine zp E (zAe E rfl rfl) ?_; clear E a; intro a E
                          refine wpList_nil ?_
                          refine zAf hK ?_; clear hK; clear K
                          refine wp_ret ?_
                          refine zAv ?_; clear hK; clear K
                          refine ret1 E rfl rfl ?_
                          exact ⟨_, rfl, _, rfl, ⟨fun q => Bool.noConfusion q, by rintro rfl; first | exact absurd rfl hb59n | exact absurd rfl hb66n | exact absurd rfl hb73n | exact absurd rfl hb82n | exact absurd rfl hb91n | (simp at hb; done)⟩, S.tail2.tr⟩
                        · have hb91n := hb91; replace hb91n := Nrm.nrm hb91n
                          refine zy E hb91 (by first | exact zAg (q := 12) E rfl rfl rfl | exact zAh (q := 12) E rfl rfl rfl) ?_; clear E a; intro a E
                          refine zy E hb91 (by first | exact zAq E rfl rfl rfl (S.get (by repeat (first | exact pk1 | apply zAc))) rfl | exact zAl E rfl rfl rfl (by assumption)) ?_; clear E a; intro a E
                          refine zy E hb91 (zBz E rfl rfl rfl rfl rfl ha.dr (S.stab.at (List.Mem.tail _ (List.Mem.tail _ ma)))) ?_; clear E a; intro a E
                          refine zy E hb91 (by first | exact zAg (q := 12) E rfl rfl rfl | exact zAh (q := 12) E rfl rfl rfl) ?_; clear E a; intro a E
                          refine zy E hb91 (by first | exact zAq E rfl rfl rfl (S.get (by repeat (first | exact pk1 | apply zAc))) rfl | exact zAl E rfl rfl rfl (by assumption)) ?_; clear E a; intro a E
                          refine zy E hb91 (zBz E rfl rfl rfl rfl rfl hq.dr (S.stab.at (List.Mem.tail _ (List.Mem.tail _ mb)))) ?_; clear E a; intro a E
                          refine zy E hb91 (by first | exact zDa E rfl rfl rfl | exact zBc E rfl rfl rfl rfl | exact zBl E rfl rfl rfl rfl | exact zBg E rfl rfl rfl) ?_; clear E a; intro a E
                          refine zp E (zAj E rfl rfl hb91 rfl) ?_; clear E a; intro a E
                          refine wpList_nil ?_
                          refine zAf hK ?_; clear hK; clear K
                          refine zBj E rfl (fun hb => ?_) (fun hb => ?_)
                          · replace hb := Nrm.nrm hb
                            refine wp_seq_k ?_; intro K hK
                            replace E := E.keep (e' := [(2, _), (3, _), (4, _)]) (zAb rfl (zAb rfl (zAb rfl (zAr))))
                            refine zAa ?_
                            refine zp E (zAe E rfl rfl) ?_; clear E a; intro a E
                            refine wpList_nil ?_
                            refine zAf hK ?_; clear hK; clear K
                            refine wp_ret ?_
                            refine zAv ?_; clear hK; clear K
                            refine ret1 E rfl rfl ?_
                            exact ⟨_, rfl, _, rfl, ⟨fun q => Bool.noConfusion q, by rintro rfl; first | exact absurd rfl hb59n | exact absurd rfl hb66n | exact absurd rfl hb73n | exact absurd rfl hb82n | exact absurd rfl hb91n | (simp at hb; done)⟩, S.tail2.tr⟩
                          · replace hb := Nrm.nrm hb
                            have hdt := hb
                            refine wp_skip ?_
                            refine zAf hK ?_; clear hK; clear K
                            iterate 2 (refine wp_seq_k ?_; intro K hK)
                            replace E := E.keep (e' := [(2, _), (3, _), (4, _)]) (zAb rfl (zAb rfl (zAb rfl (zAr))))
                            have e2 : ra.name = rb.name := by simpa using hb19
                            have e7 : ra.snap = rb.snap := by simpa using hsn
                            have e13 : ra.data = rb.data := by simpa using hdt
                            have e8 : ra.props.length = rb.props.length := by omega
                            have e12 : ra.keep.length = rb.keep.length := by omega
                            refine zAa ?_
                            refine zp E (zAe E rfl rfl) ?_; clear E a; intro a E
                            refine wpList_nil ?_
                            refine zAf hK ?_; clear hK; clear K
                            refine wp_block ?_
                            refine wp_loop_ghost (fun (m : Nat) (a : Act) (w' : World) => ∃ i : Nat, m = ra.props.length - i ∧ i ≤ ra.props.length ∧ ra.props.take i = rb.props.take i ∧ St w0 As w' ([(b3, cel (rb.cells (.slice a4 rb.props.length c4) (.slice a5 rb.keep.length c5) (.slice a6 rb.data.length c6)) 26)] :: [(b2, cel (ra.cells (.slice a1 ra.props.length c1) (.slice a2 ra.keep.length c2) (.slice a3 ra.data.length c3)) 26)] :: As) ∧ Fr a 136 [(2, ptr b2), (3, ptr b3), (4, .bool false), (5, .int .i64 i)]) (ra.props.length) ?_ ?_
                            · exact ⟨0, by omega, by omega, rfl, S, E.keep (zAb rfl (zAb rfl (zAb rfl (zAb rfl zAr))))⟩
                            clear E; clear a; (try clear S); rintro m a w ⟨i, rfl, hi, he, S, E⟩
                            iterate 2 (refine wp_seq_k ?_; intro K hK)
                            refine zAa ?_
                            refine zp E (zAd E rfl rfl) ?_; clear E a; intro a E
                            refine zp E (by first | exact zAg (q := 7) E rfl rfl rfl | exact zAh (q := 7) E rfl rfl rfl) ?_; clear E a; intro a E
                            refine zp E (by first | exact zAq E rfl rfl rfl (S.get (by repeat (first | exact pk1 | apply zAc))) rfl | exact zAl E rfl rfl rfl (by assumption)) ?_; clear E a; intro a E
                            refine zp E (by first | exact zBv E rfl rfl rfl | exact zAx E rfl rfl rfl | exact zAp E rfl rfl rfl) ?_; clear E a; intro a E
                            refine zp E (zCw E rfl rfl rfl) ?_; clear E a; intro a E
                            refine wpList_nil ?_
                            refine zAf hK ?_; clear hK; clear K
                            refine zBj E rfl (fun hb => ?_) (fun hb => ?_)
                            · replace hb := Nrm.nrm hb
                              refine wp_skip ?_
                              refine zAf hK ?_; clear hK; clear K
                              refine wp_seq_k ?_; intro K hK
                              refine wp_block ?_
                              refine wp_seq_k ?_; intro K hK
                              have hil : i < ra.props.length := by omega
                              have hil2 : i < rb.props.length := by omega
                              obtain ⟨q1, o1, rfl⟩ := ha.pr.addr (by omega)
                              obtain ⟨q2, o2, rfl⟩ := hq.pr.addr (by omega)
                              obtain ⟨x1, hx1⟩ : ∃ x, x = ra.props[i] := ⟨_, rfl⟩
                              obtain ⟨x2, hx2⟩ : ∃ x, x = rb.props[i] := ⟨_, rfl⟩
                              have hl1 := ha.pr.elem (lay := Prp.lay) Prp.lay_len (S.stab.at (List.Mem.tail _ (List.Mem.tail _ ma))) hil
                              have hl2 := hq.pr.elem (lay := Prp.lay) Prp.lay_len (S.stab.at (List.Mem.tail _ (List.Mem.tail _ mb))) hil2
                              rw [← hx1] at hl1
                              rw [← hx2] at hl2
                              refine zCa S (.ofL [(0, 0), (1, 0), (2, 0), (3, 0), (4, 0), (5, 0), (6, 0), (7, 0), (8, 0), (9, 0), (10, 0)]) (by kernel_rfl) (by kernel_rfl) ?_
                              clear S; intro w S
                              refine zm E rfl (fun w h => by first | exact zAg (q := 7) E rfl rfl rfl | exact zAh (q := 7) E rfl rfl rfl) ?_; clear E a; intro a E
                              refine zm E rfl (fun w h => by first | exact zAq E rfl rfl rfl (h.one (by repeat (first | exact mm1 | assumption | apply List.Mem.tail))) rfl | exact zAl E rfl rfl rfl (by assumption)) ?_; clear E a; intro a E
                              refine zm E rfl (fun w h => zAd E rfl rfl) ?_; clear E a; intro a E
                              refine zm E rfl (fun w h => by first | exact zBp E rfl rfl rfl rfl rfl rfl (by omega) | exact zBs E rfl rfl rfl rfl rfl rfl (by omega) | exact zBe E rfl rfl rfl rfl rfl rfl (by omega)) ?_; clear E a; intro a E
                              refine zm E rfl (fun w h => zDj (vs := [_, _]) E rfl rfl rfl rfl (ha.pr.elem (lay := Prp.lay) Prp.lay_len (h.at (List.Mem.tail _ (List.Mem.tail _ ma))) hil)) ?_; clear E a; intro a E
                              refine zm E rfl (fun w h => by first | exact zAg (q := 7) E rfl rfl rfl | exact zAh (q := 7) E rfl rfl rfl) ?_; clear E a; intro a E
                              refine zm E rfl (fun w h => by first | exact zAq E rfl rfl rfl (h.one (by repeat (first | exact mm1 | assumption | apply List.Mem.tail))) rfl | exact zAl E rfl rfl rfl (by assumption)) ?_; clear E a; intro a E
                              refine zm E rfl (fun w h => zAd E rfl rfl) ?_; clear E a; intro a E
                              refine zm E rfl (fun w h => by first | exact zBp E rfl rfl rfl rfl rfl rfl (by omega) | exact zBs E rfl rfl rfl rfl rfl rfl (by omega) | exact zBe E rfl rfl rfl rfl rfl rfl (by omega)) ?_; clear E a; intro a E
                              refine zm E rfl (fun w h => zDj (vs := [_, _]) E rfl rfl rfl rfl (hq.pr.elem (lay := Prp.lay) Prp.lay_len (h.at (List.Mem.tail _ (List.Mem.tail _ mb))) hil2)) ?_; clear E a; intro a E
                              refine zm E rfl (fun w h => rn_neq_strs E rfl rfl rfl rfl (by kernel_rfl) (by kernel_rfl) rfl rfl) ?_; clear E a; intro a E
                              refine zCd ?_
                              refine zAf hK ?_; clear hK; clear K
                              refine zBj E rfl (fun hb => ?_) (fun hb => ?_)
                              · replace hb := Nrm.nrm hb
                                refine wp_seq_k ?_; intro K hK
                                refine zAa ?_
                                refine zp E (zAe E rfl rfl) ?_; clear E a; intro a E
                                refine wpList_nil ?_
                                refine zAf hK ?_; clear hK; clear K
                                refine wp_ret ?_
                                refine zCi ?_
                                refine zAv ?_; clear hK; clear K
                                refine zAv ?_
                                refine zCi ?_
                                refine zAv ?_; clear hK; clear K
                                refine ret1 E rfl rfl ?_
                                exact ⟨_, rfl, _, rfl, ⟨fun q => Bool.noConfusion q, by rintro rfl; simp at hb⟩, S.tail2.tr⟩
                              · replace hb := Nrm.nrm hb
                                refine wp_skip ?_
                                refine zBo ?_
                                refine zAf hK ?_; clear hK; clear K
                                refine zAa ?_
                                refine zp E (zAd E rfl rfl) ?_; clear E a; intro a E
                                refine zp E (zCc E rfl rfl rfl (by first | exact zCt (y := 1) (by omega) | exact w_in (by omega) | exact zCb (by omega) | exact rfl)) ?_; clear E a; intro a E
                                refine zp E (zAe E rfl rfl) ?_; clear E a; intro a E
                                refine wpList_nil ?_
                                refine zBn ?_
                                refine ⟨_, by omega, i + 1, rfl, by omega, zJp he hil hil2 ?_, S, E.keep (zAb rfl (zAb rfl (zAb rfl (zAb rfl zAr))))⟩
                                have hb : ra.props[i].name = rb.props[i].name ∧ ra.props[i].value = rb.props[i].value := by simpa using hb
                                cases hra : ra.props[i]
                                cases hrb : rb.props[i]
                                rw [hra, hrb] at hb
                                simp only at hb
                                rw [hb.1, hb.2]
                            · replace hb := Nrm.nrm hb
                              refine wp_exit ?_
                              refine zBf ?_; clear hK; clear K
                              refine zBf ?_
                              refine zCr ?_
                              refine zAf hK ?_; clear hK; clear K
                              iterate 2 (refine wp_seq_k ?_; intro K hK)
                              have e8' : ra.props = rb.props := by rw [List.take_of_length_le (by omega), List.take_of_length_le (by omega)] at he; exact he
                              refine zAa ?_
                              refine zp E (zAe E rfl rfl) ?_; clear E a; intro a E
                              refine wpList_nil ?_
                              refine zAf hK ?_; clear hK; clear K
                              refine wp_block ?_
                              refine wp_loop_ghost (fun (m : Nat) (a : Act) (w' : World) => ∃ i : Nat, m = ra.keep.length - i ∧ i ≤ ra.keep.length ∧ ra.keep.take i = rb.keep.take i ∧ St w0 As w' ([(b3, cel (rb.cells (.slice a4 rb.props.length c4) (.slice a5 rb.keep.length c5) (.slice a6 rb.data.length c6)) 26)] :: [(b2, cel (ra.cells (.slice a1 ra.props.length c1) (.slice a2 ra.keep.length c2) (.slice a3 ra.data.length c3)) 26)] :: As) ∧ Fr a 136 [(2, ptr b2), (3, ptr b3), (4, .bool false), (6, .int .i64 i)]) (ra.keep.length) ?_ ?_
                              · exact ⟨0, by omega, by omega, rfl, S, E.keep (zAb rfl (zAb rfl (zAb rfl (zAb rfl zAr))))⟩
                              clear E; clear a; (try clear S); rintro m a w ⟨j, rfl, hj, hk, S, E⟩
                              iterate 2 (refine wp_seq_k ?_; intro K hK)
                              refine zAa ?_
                              refine zp E (zAd E rfl rfl) ?_; clear E a; intro a E
                              refine zp E (by first | exact zAg (q := 11) E rfl rfl rfl | exact zAh (q := 11) E rfl rfl rfl) ?_; clear E a; intro a E
                              refine zp E (by first | exact zAq E rfl rfl rfl (S.get (by repeat (first | exact pk1 | apply zAc))) rfl | exact zAl E rfl rfl rfl (by assumption)) ?_; clear E a; intro a E
                              refine zp E (by first | exact zBv E rfl rfl rfl | exact zAx E rfl rfl rfl | exact zAp E rfl rfl rfl) ?_; clear E a; intro a E
                              refine zp E (zCw E rfl rfl rfl) ?_; clear E a; intro a E
                              refine wpList_nil ?_
                              refine zAf hK ?_; clear hK; clear K
                              refine zBj E rfl (fun hb => ?_) (fun hb => ?_)
                              · replace hb := Nrm.nrm hb
                                refine wp_skip ?_
                                refine zAf hK ?_; clear hK; clear K
                                refine wp_seq_k ?_; intro K hK
                                refine wp_block ?_
                                refine wp_seq_k ?_; intro K hK
                                have hil : j < ra.keep.length := by omega
                                have hil2 : j < rb.keep.length := by omega
                                obtain ⟨q1, o1, rfl⟩ := ha.kr.addr (by omega)
                                obtain ⟨q2, o2, rfl⟩ := hq.kr.addr (by omega)
                                refine zCa S (.ofL [(0, 0), (1, 0), (2, 0), (3, 0), (4, 0), (5, 0), (6, 0), (7, 0), (8, 0), (9, 0), (10, 0)]) (by kernel_rfl) (by kernel_rfl) ?_
                                clear S; intro w S
                                refine zm E rfl (fun w h => by first | exact zAg (q := 11) E rfl rfl rfl | exact zAh (q := 11) E rfl rfl rfl) ?_; clear E a; intro a E
                                refine zm E rfl (fun w h => by first | exact zAq E rfl rfl rfl (h.one (by repeat (first | exact mm1 | assumption | apply List.Mem.tail))) rfl | exact zAl E rfl rfl rfl (by assumption)) ?_; clear E a; intro a E
                                refine zm E rfl (fun w h => zAd E rfl rfl) ?_; clear E a; intro a E
                                refine zm E rfl (fun w h => by first | exact zBp E rfl rfl rfl rfl rfl rfl (by omega) | exact zBs E rfl rfl rfl rfl rfl rfl (by omega) | exact zBe E rfl rfl rfl rfl rfl rfl (by omega)) ?_; clear E a; intro a E
                                refine zm E rfl (fun w h => zAl E rfl rfl rfl (ha.kr.cells (h.at (List.Mem.tail _ (List.Mem.tail _ ma))) rfl j _ (zJh hil))) ?_; clear E a; intro a E
                                refine zm E rfl (fun w h => by first | exact zAg (q := 11) E rfl rfl rfl | exact zAh (q := 11) E rfl rfl rfl) ?_; clear E a; intro a E
                                refine zm E rfl (fun w h => by first | exact zAq E rfl rfl rfl (h.one (by repeat (first | exact mm1 | assumption | apply List.Mem.tail))) rfl | exact zAl E rfl rfl rfl (by assumption)) ?_; clear E a; intro a E
                                refine zm E rfl (fun w h => zAd E rfl rfl) ?_; clear E a; intro a E
                                refine zm E rfl (fun w h => by first | exact zBp E rfl rfl rfl rfl rfl rfl (by omega) | exact zBs E rfl rfl rfl rfl rfl rfl (by omega) | exact zBe E rfl rfl rfl rfl rfl rfl (by omega)) ?_; clear E a; intro a E
                                refine zm E rfl (fun w h => zAl E rfl rfl rfl (hq.kr.cells (h.at (List.Mem.tail _ (List.Mem.tail _ mb))) rfl j _ (zJh hil2))) ?_; clear E a; intro a E
                                refine zm E rfl (fun w h => by first | exact zDa E rfl rfl rfl | exact zBc E rfl rfl rfl rfl | exact zBl E rfl rfl rfl rfl | exact zBg E rfl rfl rfl) ?_; clear E a; intro a E
                                refine zCd ?_
                                refine zAf hK ?_; clear hK; clear K
                                refine zBj E rfl (fun hb => ?_) (fun hb => ?_)
                                · replace hb := Nrm.nrm hb
                                  refine wp_seq_k ?_; intro K hK
                                  refine zAa ?_
                                  refine zp E (zAe E rfl rfl) ?_; clear E a; intro a E
                                  refine wpList_nil ?_
                                  refine zAf hK ?_; clear hK; clear K
                                  refine wp_ret ?_
                                  refine zCi ?_
                                  refine zAv ?_; clear hK; clear K
                                  refine zAv ?_
                                  refine zCi ?_
                                  refine zAv ?_; clear hK; clear K
                                  refine ret1 E rfl rfl ?_
                                  exact ⟨_, rfl, _, rfl, ⟨fun q => Bool.noConfusion q, by rintro rfl; exact absurd rfl hb⟩, S.tail2.tr⟩
                                · replace hb := Nrm.nrm hb
                                  refine wp_skip ?_
                                  refine zBo ?_
                                  refine zAf hK ?_; clear hK; clear K
                                  refine zAa ?_
                                  refine zp E (zAd E rfl rfl) ?_; clear E a; intro a E
                                  refine zp E (zCc E rfl rfl rfl (by first | exact zCt (y := 1) (by omega) | exact w_in (by omega) | exact zCb (by omega) | exact rfl)) ?_; clear E a; intro a E
                                  refine zp E (zAe E rfl rfl) ?_; clear E a; intro a E
                                  refine wpList_nil ?_
                                  refine zBn ?_
                                  exact ⟨_, by omega, j + 1, rfl, by omega, zJp hk hil hil2 hb, S, E.keep (zAb rfl (zAb rfl (zAb rfl (zAb rfl zAr))))⟩
                              · replace hb := Nrm.nrm hb
                                refine wp_exit ?_
                                refine zBf ?_; clear hK; clear K
                                refine zBf ?_
                                refine zCr ?_
                                refine zAf hK ?_; clear hK; clear K
                                refine wp_seq_k ?_; intro K hK
                                refine zAa ?_
                                refine zp E (zAe E rfl rfl) ?_; clear E a; intro a E
                                refine wpList_nil ?_
                                refine zAf hK ?_; clear hK; clear K
                                refine wp_ret ?_
                                refine ret1 E rfl rfl ?_
                                have e12' : ra.keep = rb.keep := by rw [List.take_of_length_le (by omega), List.take_of_length_le (by omega)] at hk; exact hk
                                refine ⟨_, rfl, _, rfl, ⟨fun _ => ?_, fun _ => rfl⟩, S.tail2.tr⟩
                                obtain ⟨A1, A2, A3, A4, A5, A6, A7, A8, A9, A10, A11, A12, A13⟩ := ra
                                obtain ⟨B1, B2, B3, B4, B5, B6, B7, B8, B9, B10, B11, B12, B13⟩ := rb
                                simp only at *
                                simp_all
end Go.Proofs.YtbogecljkaimdaaGreatDoor
namespace Go.Sl
structure RV where
  r : Rec
  pv : Value
  kv : Value
  dv : Value
def RV.lay (x : RV) : List Value := x.r.cells x.pv x.kv x.dv
theorem RV.lay_len (x : RV) : x.lay.length = 13 := rfl
def RVs (X : zAs) (l : List RV) : Prop := ∀ x ∈ l, RecR X x.r x.pv x.kv x.dv
abbrev fsC (s : Fs) : List Value := [.int .u64 s.a, .int .u64 s.b, .int .u64 s.c, .int .u64 s.d]
theorem RecR.sub {C D : zAs} {r : Rec} {pv kv dv : Value} (h : RecR C r pv kv dv) (hs : ∀ x ∈ C, x ∈ D) : RecR D r pv kv dv := ⟨h.pr.sub hs, h.kr.sub hs, h.dr.sub hs⟩
theorem RVs.sub {C D : zAs} {l : List RV} (h : RVs C l) (hs : ∀ x ∈ C, x ∈ D) : RVs D l := fun x hx => (h x hx).sub hs
theorem rvs_one {X : zAs} {l : List RV} (h : RVs X l) : ∀ u ∈ l.flatMap RV.lay, u.oneCell' = true := fun u hu => by
  obtain ⟨x, hx, hu⟩ := List.mem_flatMap.1 hu
  have := h x hx
  obtain ⟨a1, c1, e1⟩ := this.pr.slice
  obtain ⟨a2, c2, e2⟩ := this.kr.slice
  obtain ⟨a3, c3, e3⟩ := this.dr.slice
  rw [RV.lay, e1, e2, e3] at hu
  simp only [Rec.cells, List.mem_cons, List.not_mem_nil, or_false] at hu
  rcases hu with rfl | rfl | rfl | rfl | rfl | rfl | rfl | rfl | rfl | rfl | rfl | rfl | rfl <;> rfl
def strS (l : List Rec) : List UInt8 × Fs := l.foldl (fun x r => (x.1 ++ zCz r.kind (zDk r.kind r) x.2, ownS r.kind (zDk r.kind r) x.2)) ([], zEa)
theorem strS_step {l : List Rec} {i : Nat} (h : i < l.length) : strS (l.take (i + 1)) = ((strS (l.take i)).1 ++ zCz l[i].kind (zDk l[i].kind l[i]) (strS (l.take i)).2, ownS l[i].kind (zDk l[i].kind l[i]) (strS (l.take i)).2) := by
  rw [← List.take_append_getElem h, strS, List.foldl_append]
  rfl
end Go.Sl
namespace Go.Proofs.YtbogecljkaimdaaGreatDoor
open Go.Sl
set_option maxRecDepth 10000
theorem piece_le {r : Rec} (h : ckB r = true) (s : Fs) : (zCz r.kind (zDk r.kind r) s).length ≤ 2085 := by
  have := body_le (ckB_use h).1 (ckB_use h).2
  rw [zFc]; omega
theorem strS_le {l : List Rec} : ∀ i, i ≤ l.length → (∀ k, ∀ h : k < l.length, k < i → ckB l[k] = true) → (strS (l.take i)).1.length ≤ 2085 * i := by
  intro i
  induction i with
  | zero => intro _ _; simp [strS]
  | succ i ih =>
    intro hi hc
    rw [strS_step (by omega), List.length_append]
    have h1 := ih (by omega) fun k h hk => hc k h (by omega)
    have h2 := piece_le (hc i (by omega) (by omega)) (strS (l.take i)).2
    omega
noncomputable def strR (l : List Rec) : Int × List UInt8 :=
  @ite _ (∀ r ∈ l, ckB r = true) (Classical.propDecidable _) (if 1048576 < (strS l).1.length then (2, []) else (0, (strS l).1)) (200, [])
theorem strR_no {l : List Rec} {i : Nat} (h : i < l.length) (hc : ckB l[i] = false) : strR l = (200, []) := by
  unfold strR
  rw [if_neg fun q => by have := q _ (List.getElem_mem h); rw [hc] at this; cases this]
theorem all_of {l : List Rec} (h : ∀ k, ∀ h : k < l.length, ckB l[k] = true) : ∀ r ∈ l, ckB r = true := fun r hr => by
  obtain ⟨k, hk, rfl⟩ := List.getElem_of_mem hr
  exact h k hk
theorem strR_long {l : List Rec} (h : ∀ k, ∀ h : k < l.length, ckB l[k] = true) (hl : 1048576 < (strS l).1.length) : strR l = (2, []) := by
  unfold strR
  rw [if_pos (all_of h), if_pos hl]
theorem strR_ok {l : List Rec} (h : ∀ k, ∀ h : k < l.length, ckB l[k] = true) (hl : (strS l).1.length ≤ 1048576) : strR l = (0, (strS l).1) := by
  unfold strR
  rw [if_pos (all_of h), if_neg (by omega)]
set_option maxHeartbeats 1000000 in
theorem zHx {D X : zAs} {v : Value} {l : List RV} (hD : Rd D 13 v l.length (l.flatMap RV.lay)) (hX : RVs X l) (hs : ∀ x ∈ l, Sml x.r) (hl : l.length ≤ 1048576) (rs : List Rec) (hrs : rs = l.map RV.r) {As : List zAs} (mD : D ∈ As) (mX : X ∈ As) (hG : Tab As 2 shaK) (w0 : World) (H : Hp w0 As) :
    Ret Tryz.prog 23 #[v] w0 fun u w' => ∃ v' C, u = .tuple #[v', .int .i64 (strR rs).1] ∧ Buf C 5 1 v' (strR rs).2.length (byt (strR rs).2) ∧ Trs w0 w' As (C :: As) := by
  have S := St.begin H
  have hrl : rs.length = l.length := by rw [hrs, List.length_map]
  obtain ⟨ad, c, rfl⟩ := hD.slice
  refine zDh 36 Tryz.func23 rfl rfl (by decide) ?_; intro a E
  refine wp_seq_k ?_; intro K hK
  refine zAa ?_
  iterate 2 (refine zp E (zAe E rfl rfl) ?_; clear E a; intro a E)
  refine wpList_nil ?_
  refine zAf hK ?_; clear hK; clear K
  refine wp_seq_k ?_; intro K hK
  refine zAa ?_
  refine zp E (zAe E rfl rfl) ?_; clear E a; intro a E
  refine wpList_nil ?_
  refine zAf hK ?_; clear hK; clear K
  refine wp_seq_k ?_; intro K hK
  refine zAa ?_
  refine zAm rfl (zBr E S rfl rfl (by decide) rfl rfl rfl ?_); clear E S a; intro a w b5 E S
  refine wpList_nil ?_
  refine zAf hK ?_; clear hK; clear K
  iterate 2 (refine wp_seq_k ?_; intro K hK)
  refine zAa ?_
  refine zp E (zAd E rfl rfl) ?_; clear E a; intro a E
  refine zp E (by first | exact zBv E rfl rfl rfl | exact zAx E rfl rfl rfl | exact zAp E rfl rfl rfl) ?_; clear E a; intro a E
  refine zp E (zAd E rfl rfl) ?_; clear E a; intro a E
  refine wpList_nil ?_
  refine zAf hK ?_; clear hK; clear K
  refine wp_block ?_
  refine wp_loop_ghost (fun (m : Nat) (a : Act) (w' : World) => ∃ (i : Nat) (C : zAs) (v' : Value), m = l.length - i ∧ i ≤ l.length ∧ (∀ k, ∀ h : k < rs.length, k < i → ckB rs[k] = true) ∧ Buf C 5 1 v' (strS (rs.take i)).1.length (byt (strS (rs.take i)).1) ∧ St w0 As w' (C :: [(b5, cel (fsC (strS (rs.take i)).2) 29)] :: As) ∧ Fr a 36 [(2, nilv), (3, .int .i64 0), (4, v'), (5, ptr b5), (11, .slice ad l.length c), (12, .int .i64 l.length), (13, .int .i64 i)]) (l.length) ?_ ?_
  · exact ⟨0, [], _, by omega, by omega, by intro k _ h; omega, Buf.nil _ _, S.addNil, E.keep (zAb rfl (zAb rfl (zAb rfl (zAb rfl (zAb rfl (zAb rfl (zAb rfl zAr)))))))⟩
  clear E; clear a; (try clear S); rintro m a w ⟨i, C, v', rfl, hi, hck, hB, S, E⟩
  refine wp_seq_k ?_; intro K hK
  refine zAa ?_
  refine zp E (zCw E rfl rfl rfl) ?_; clear E a; intro a E
  refine wpList_nil ?_
  refine zAf hK ?_; clear hK; clear K
  refine wp_seq_k ?_; intro K hK
  refine zBj E rfl (fun hb => ?_) (fun hb => ?_)
  · replace hb := Nrm.nrm hb
    refine wp_skip ?_
    refine zAf hK ?_; clear hK; clear K
    refine wp_seq_k ?_; intro K hK
    refine wp_block ?_
    refine wp_seq_k ?_; intro K hK
    have hil : i < l.length := by omega
    have hir : i < rs.length := by omega
    have hlen := strS_le (l := rs) i (by omega) hck
    have hri : rs[i] = l[i].r := by simp [hrs]
    obtain ⟨b, off, rfl⟩ := hD.addr (by omega)
    obtain ⟨x, hx⟩ : ∃ x, x = l[i] := ⟨_, rfl⟩
    have hxR := hX _ (List.getElem_mem hil)
    have hxs := hs _ (List.getElem_mem hil)
    have hcl := hD.elem RV.lay_len (S.stab.at (List.Mem.tail _ (List.Mem.tail _ mD))) hil
    rw [← hx] at hxR hxs hcl hri
    obtain ⟨r, pv, kv, dv⟩ := x
    simp only at hxR hxs hri
    obtain ⟨bs, hbs⟩ : ∃ bs, bs = (strS (rs.take i)).1 := ⟨_, rfl⟩
    obtain ⟨se, hse⟩ : ∃ se, se = (strS (rs.take i)).2 := ⟨_, rfl⟩
    rw [← hbs] at hB hlen
    rw [← hse] at S
    obtain ⟨p1, p2, p3⟩ := hxR
    obtain ⟨a1, c1, rfl⟩ := p1.slice
    obtain ⟨a2, c2, rfl⟩ := p2.slice
    obtain ⟨a3, c3, rfl⟩ := p3.slice
    have hxR : RecR X r (.slice a1 r.props.length c1) (.slice a2 r.keep.length c2) (.slice a3 r.data.length c3) := ⟨p1, p2, p3⟩
    refine zAa ?_
    refine zp E (by first | exact zBp E rfl rfl rfl rfl rfl rfl (by omega) | exact zBs E rfl rfl rfl rfl rfl rfl (by omega) | exact zBe E rfl rfl rfl rfl rfl rfl (by omega)) ?_; clear E a; intro a E
    refine zp E (zDj (vs := [_, _, _, _, _, _, _, _, _, _, _, _, _]) E rfl rfl rfl rfl (hcl)) ?_; clear E a; intro a E
    refine zAm rfl (zBr E S rfl rfl (by decide) rfl rfl rfl ?_); clear E S a; intro a w b7 E S
    refine zAm rfl (zBd E S rfl rfl rfl rfl (by simp [Value.oneCell']) rfl (by repeat (first | exact pk1 | apply zAc)) (by simp) ?_); clear E S a; intro a w E S; simp only [List.take_succ_cons, List.take_zero, List.drop_succ_cons, List.drop_zero, List.cons_append, List.nil_append, List.append_nil, List.length_cons, List.length_nil, Nat.zero_add, Nat.add_zero] at S
    refine wpList_nil ?_
    refine zAf hK ?_; clear hK; clear K
    refine wp_seq_k ?_; intro K hK
    refine zAa ?_
    refine zp E (zBq (vs := [_, _, _, _, _, _, _, _, _, _, _, _, _]) E rfl rfl rfl (S.get (by repeat (first | exact pk1 | apply zAc))) rfl rfl) ?_; clear E a; intro a E
    refine zp E (zBq (vs := [_, _, _, _]) E rfl rfl rfl (S.get (by repeat (first | exact pk1 | apply zAc))) rfl rfl) ?_; clear E a; intro a E
    refine zAn E rfl rfl (by decide) rfl Tryz.func12 rfl (by kernel_rfl) rfl (zKi hxR hxs se (List.Mem.tail _ (List.Mem.tail _ (List.Mem.tail _ mX))) (hG.sub fun Q hQ => List.Mem.tail _ (List.Mem.tail _ (List.Mem.tail _ hQ))) _ S.hp) ?_
    rintro v20 w h; clear E a; intro a E
    rcases h with ⟨hno, rfl, hT⟩ | ⟨hyes, v2, D2, rfl, hB2, hT⟩
    · skip
      have S := S.all hT
      refine zp E (zAd E rfl rfl) ?_; clear E a; intro a E
      iterate 3 (refine zp E (zBh E rfl rfl rfl) ?_; clear E a; intro a E)
      refine zAm rfl (zBr E S rfl rfl (by decide) rfl rfl rfl ?_); clear E S a; intro a w b9 E S
      refine zp E (zAe E rfl rfl) ?_; clear E a; intro a E
      refine zAm rfl (zBd E S rfl rfl rfl rfl (by simp [Value.oneCell']) rfl (by repeat (first | exact pk1 | apply zAc)) (by simp) ?_); clear E S a; intro a w E S; simp only [List.take_succ_cons, List.take_zero, List.drop_succ_cons, List.drop_zero, List.cons_append, List.nil_append, List.append_nil, List.length_cons, List.length_nil, Nat.zero_add, Nat.add_zero] at S
      refine zp E (zAe E rfl rfl) ?_; clear E a; intro a E
      refine wpList_nil ?_
      refine zAf hK ?_; clear hK; clear K
      iterate 2 (refine wp_seq_k ?_; intro K hK)
      refine zAa ?_
      refine zp E (zAd E rfl rfl) ?_; clear E a; intro a E
      refine zp E (by first | exact zDa E rfl rfl rfl | exact zBc E rfl rfl rfl rfl | exact zBl E rfl rfl rfl rfl | exact zBg E rfl rfl rfl) ?_; clear E a; intro a E
      refine wpList_nil ?_
      refine zAf hK ?_; clear hK; clear K
      refine zBy E rfl ((by rfl)) ?_
      refine wp_seq_k ?_; intro K hK
      refine zAa ?_
      refine zp E (zAd E rfl rfl) ?_; clear E a; intro a E
      iterate 2 (refine zp E (zAe E rfl rfl) ?_; clear E a; intro a E)
      refine wpList_nil ?_
      refine zAf hK ?_; clear hK; clear K
      refine wp_ret ?_
      refine zAv ?_; clear hK; clear K
      refine zCi ?_
      refine zAv ?_; clear hK; clear K
      refine zAv ?_
      refine zCi ?_
      refine zAv ?_; clear hK; clear K
      refine ret2 E rfl rfl rfl ?_
      rw [strR_no hir (by rw [hri]; exact hno)]
      exact ⟨_, rfl, _, [], rfl, Buf.nil _ _, ((St.drops0 [_, _, _, _] S).addNil).tr⟩
    · skip
      have S := S.all hT; have hpl := piece_le hyes se
      refine zp E (zAd E rfl rfl) ?_; clear E a; intro a E
      iterate 3 (refine zp E (zBh E rfl rfl rfl) ?_; clear E a; intro a E)
      refine zAm rfl (zBr E S rfl rfl (by decide) rfl rfl rfl ?_); clear E S a; intro a w b9 E S
      refine zp E (zAe E rfl rfl) ?_; clear E a; intro a E
      refine zAm rfl (zBd E S rfl rfl rfl rfl (by simp [Value.oneCell']) rfl (by repeat (first | exact pk1 | apply zAc)) (by simp) ?_); clear E S a; intro a w E S; simp only [List.take_succ_cons, List.take_zero, List.drop_succ_cons, List.drop_zero, List.cons_append, List.nil_append, List.append_nil, List.length_cons, List.length_nil, Nat.zero_add, Nat.add_zero] at S
      refine zp E (zAe E rfl rfl) ?_; clear E a; intro a E
      refine wpList_nil ?_
      refine zAf hK ?_; clear hK; clear K
      iterate 2 (refine wp_seq_k ?_; intro K hK)
      refine zAa ?_
      refine zp E (zAd E rfl rfl) ?_; clear E a; intro a E
      refine zp E (by first | exact zDa E rfl rfl rfl | exact zBc E rfl rfl rfl rfl | exact zBl E rfl rfl rfl rfl | exact zBg E rfl rfl rfl) ?_; clear E a; intro a E
      refine wpList_nil ?_
      refine zAf hK ?_; clear hK; clear K
      refine zCl E rfl ((by rfl)) ?_
      refine wp_skip ?_
      refine zAf hK ?_; clear hK; clear K
      refine zDm S (.ofL [(0, 0), (1, 0), (3, 0), (2, 1), (4, 0), (5, 3)]) [[(b9, cel (fsC (ownS r.kind (zDk r.kind r) se)) 29)]] (fun h => h.sub (by first | (simp; done) | (simp +contextual; done) | (simp [*]; done))) (by kernel_rfl) (by kernel_rfl) ?_
      clear S; intro w S
      iterate 2 (refine zm E rfl (fun w h => zAd E rfl rfl) ?_; clear E a; intro a E)
      refine zm E rfl (fun w h => zBq (vs := [_, _, _, _]) E rfl rfl rfl (h.one (by repeat (first | exact mm1 | assumption | apply List.Mem.tail))) rfl rfl) ?_; clear E a; intro a E
      refine zDg rfl rfl (zDi (by' := 1) E S rfl rfl (by decide) rfl rfl hB (by repeat (first | exact pk1 | apply zAc)) (hB2.rd.src (S.stab.at (by repeat (first | exact mm1 | assumption | apply List.Mem.tail))) rfl) rfl rfl rfl rfl rfl rfl (by simp only [maxLen]; omega) (by omega) ?_); clear E S a; intro a w v29 C29 E S hB29; refine ⟨S.stab.sub (by first | (simp; done) | (simp +contextual; done) | (simp [*]; done)), ?_⟩
      refine zm E rfl (fun w h => zAe E rfl rfl) ?_; clear E a; intro a E
      refine zCy rfl rfl (zBd E S rfl rfl rfl rfl (by simp [Value.oneCell']) rfl (by repeat (first | exact pk1 | apply zAc)) (by simp) ?_); clear E S a; intro a w E S; simp only [List.take_succ_cons, List.take_zero, List.drop_succ_cons, List.drop_zero, List.cons_append, List.nil_append, List.append_nil, List.length_cons, List.length_nil, Nat.zero_add, Nat.add_zero] at S
      refine zCd ?_
      refine zBo ?_
      refine zAf hK ?_; clear hK; clear K
      refine zAa ?_
      refine zp E (zCc E rfl rfl rfl (by first | exact zCt (y := 1) (by omega) | exact w_in (by omega) | exact zCb (by omega) | exact rfl)) ?_; clear E a; intro a E
      refine zp E (zAd E rfl rfl) ?_; clear E a; intro a E
      refine wpList_nil ?_
      refine zBn ?_
      have hst := strS_step hir
      rw [hri, ← hbs, ← hse] at hst
      refine ⟨_, by omega, i + 1, C29, v29, rfl, by omega, ?_, by rw [hst]; simp only; rw [List.length_append, zDs]; exact hB29, ?_, E.keep (zAb rfl (zAb rfl (zAb rfl (zAb rfl (zAb rfl (zAb rfl (zAb rfl zAr)))))))⟩
      · intro k hk hki
        by_cases e : k = i
        · subst e; rw [hri]; exact hyes
        · exact hck k hk (by omega)
      · rw [hst]
        exact St.drops2 [_, _, _] (S.front2 (A := C29) (B := [(b5, _)]) (by repeat (first | exact pk1 | apply zAc)) (by repeat (first | exact pk1 | apply zAc)))
  · replace hb := Nrm.nrm hb
    refine wp_exit ?_
    refine zBf ?_; clear hK; clear K
    refine zBf ?_
    refine zCr ?_
    refine zAf hK ?_; clear hK; clear K
    iterate 2 (refine wp_seq_k ?_; intro K hK)
    obtain rfl : i = l.length := by omega
    have hck : ∀ k, ∀ h : k < rs.length, ckB rs[k] = true := fun k h => hck k h (by omega)
    rw [List.take_of_length_le (by omega)] at hB
    obtain ⟨adv, cv, rfl⟩ := hB.slice
    refine zAa ?_
    refine zp E (zAd E rfl rfl) ?_; clear E a; intro a E
    refine zp E (by first | exact zBv E rfl rfl rfl | exact zAx E rfl rfl rfl | exact zAp E rfl rfl rfl) ?_; clear E a; intro a E
    refine zp E (zEi E rfl rfl rfl) ?_; clear E a; intro a E
    refine wpList_nil ?_
    refine zAf hK ?_; clear hK; clear K
    refine zBj E rfl (fun hb => ?_) (fun hb => ?_)
    · replace hb := Nrm.nrm hb
      refine wp_seq_k ?_; intro K hK
      refine zAa ?_
      iterate 2 (refine zp E (zAe E rfl rfl) ?_; clear E a; intro a E)
      refine wpList_nil ?_
      refine zAf hK ?_; clear hK; clear K
      refine wp_ret ?_
      refine zAv ?_; clear hK; clear K
      refine ret2 E rfl rfl rfl ?_
      rw [strR_long hck (by omega)]
      exact ⟨_, rfl, _, [], rfl, Buf.nil _ _, ((St.drops0 [_, _] S).addNil).tr⟩
    · replace hb := Nrm.nrm hb
      refine wp_skip ?_
      refine zAf hK ?_; clear hK; clear K
      refine wp_seq_k ?_; intro K hK
      refine zAa ?_
      refine zp E (zAd E rfl rfl) ?_; clear E a; intro a E
      iterate 2 (refine zp E (zAe E rfl rfl) ?_; clear E a; intro a E)
      refine wpList_nil ?_
      refine zAf hK ?_; clear hK; clear K
      refine wp_ret ?_
      refine ret2 E rfl rfl rfl ?_
      rw [strR_ok hck (by omega)]
      exact ⟨_, rfl, _, C, rfl, hB, (St.drops [_] S).tr⟩
end Go.Proofs.YtbogecljkaimdaaGreatDoor
