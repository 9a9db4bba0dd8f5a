/-
  Texts put together (10).
-/
import Derived.Test.YtbogecljkaimdaaGreatDoorZRecordCut9
namespace Go.Sl
set_option maxRecDepth 10000
structure Rdr.At (s : Rdr) (t : List UInt8) : Prop where
  e : s.e = 0
  le : s.at_ ≤ s.bs.length
  eq : s.bs.drop s.at_ = t
theorem Rdr.At.len {s : Rdr} {t : List UInt8} (h : s.At t) : s.at_ + t.length = s.bs.length := by
  have := congrArg List.length h.eq
  rw [List.length_drop] at this
  have := h.le
  omega
theorem Rdr.At.step {s : Rdr} {x t : List UInt8} (h : s.At (x ++ t)) {n : Nat} (hn : n = x.length) : s.cut n 0 = x ∧ (Rdr.mk s.bs (s.at_ + n) s.e).At t := by
  subst hn
  have hl := h.len
  rw [List.length_append] at hl
  refine ⟨?_, h.e, by simp only; omega, ?_⟩
  · rw [Rdr.cut, Nat.add_zero, h.eq]; simp
  · simp only; rw [← List.drop_drop, h.eq]; simp
theorem zGc {s : Rdr} {n k : Nat} {t : List UInt8} (h : s.At (zBv n k ++ t)) (h1 : 1 ≤ k) (h8 : k ≤ 8) (hn : n < 256 ^ k) : (s.num k).1 = n ∧ (s.num k).2.At t := by
  have hl := h.len
  rw [List.length_append, zBa] at hl
  obtain ⟨q1, q2⟩ := h.step (n := k) (by rw [zBa])
  have hv : s.num k = (zCy (s.cut k 0), { s with at_ := s.at_ + k }) := by
    simp [Rdr.num, h.e, show ¬ ((k : Int) < 1 ∨ 8 < (k : Int)) by omega, show ¬ s.bs.length < s.at_ + k by omega]
  rw [hv, q1, zFp hn]
  exact ⟨rfl, q2⟩
theorem zFz {s : Rdr} {x t : List UInt8} {m : Int} (h : s.At (txt x ++ t)) (hm : (x.length : Int) ≤ m) (hx : x.length < 65536) : (s.text m).1 = x ∧ (s.text m).2.At t := by
  have hl := h.len
  rw [List.length_append, zCs] at hl
  rw [txt, List.append_assoc] at h
  obtain ⟨q1, q2⟩ := h.step (n := 2) (by rw [zBa])
  obtain ⟨q3, q4⟩ := q2.step (n := x.length) rfl
  have hnum : zCy (s.cut 2 0) = x.length := by rw [q1]; exact zFp hx
  have hcut : s.cut x.length 2 = x := by
    have : (Rdr.mk s.bs (s.at_ + 2) s.e).cut x.length 0 = s.cut x.length 2 := by simp [Rdr.cut]
    rw [← this, q3]
  have hv : s.text m = (x, { s with at_ := s.at_ + (2 + x.length) }) := by
    unfold Rdr.text
    rw [if_neg (by simp [h.e]), if_neg (by omega), hnum, if_neg (by omega), if_neg (by omega), hcut]
  rw [hv]
  refine ⟨rfl, ?_⟩
  have q5 := q4
  simp only [Nat.add_assoc] at q5
  exact q5
theorem bytes_read {s : Rdr} {x t : List UInt8} (h : s.At (x ++ t)) : (s.bytes x.length).1 = x ∧ (s.bytes x.length).2.At t := by
  have hl := h.len
  rw [List.length_append] at hl
  obtain ⟨q1, q2⟩ := h.step (n := x.length) rfl
  have hv : s.bytes x.length = (x, { s with at_ := s.at_ + x.length }) := by
    unfold Rdr.bytes
    rw [if_neg (by simp [h.e]), if_neg (by omega), Int.toNat_natCast, if_neg (by omega), q1]
  rw [hv]
  exact ⟨rfl, q2⟩
theorem done_read {s : Rdr} (h : s.At []) : s.done = 0 := by
  have := h.len
  simp only [List.length_nil] at this
  have h2 : ¬ s.at_ < s.bs.length := by omega
  simp only [Rdr.done, h.e, h2, and_false, if_false]
theorem at_start (b : List UInt8) : (Rdr.mk b 0 0).At b := ⟨rfl, Nat.zero_le _, rfl⟩
theorem keepS_read {size : Nat} {more : Int} (h1 : 1 ≤ size) (h8 : size ≤ 8) {l : List Int} (hb : ∀ n ∈ l, 0 ≤ n + more ∧ n + more < 256 ^ size) {s : Rdr} {t : List UInt8} (h : s.At (zFw l size more ++ t)) :
    ∀ i, i ≤ l.length → (zGg size more s i).1 = l.take i ∧ (zGg size more s i).2.At (zFw (l.drop i) size more ++ t) := by
  intro i
  induction i with
  | zero => intro _; exact ⟨rfl, by rw [List.drop_zero]; exact h⟩
  | succ i ih =>
    intro hi
    obtain ⟨q1, q2⟩ := ih (by omega)
    have hil : i < l.length := by omega
    rw [List.drop_eq_getElem_cons hil] at q2
    have hc : zFw (l[i] :: l.drop (i + 1)) size more = zBv (l[i] + more).toNat size ++ zFw (l.drop (i + 1)) size more := rfl
    rw [hc, List.append_assoc] at q2
    have hbi := hb _ (List.getElem_mem hil)
    obtain ⟨r1, r2⟩ := zGc q2 h1 h8 (by
      have h0 := hbi.1
      exact (Int.toNat_lt h0).2 (by exact_mod_cast hbi.2))
    refine ⟨?_, r2⟩
    rw [zGg]
    simp only
    rw [r1, q1, ← List.take_append_getElem hil]
    congr 2
    have := hbi.1
    omega
theorem zKa {size : Nat} {more : Int} (h1 : 1 ≤ size) (h8 : size ≤ 8) {l : List Int} (hl : l.length ≤ 240) (hb : ∀ n ∈ l, 0 ≤ n + more ∧ n + more < 256 ^ size) {s : Rdr} {t : List UInt8} (h : s.At (zBv l.length 2 ++ (zFw l size more ++ t))) :
    (zFy s size more).1 = l ∧ (zFy s size more).2.At t := by
  obtain ⟨r1, r2⟩ := zGc h (by omega) (by omega) (by omega)
  have := keepS_read h1 h8 hb r2 l.length (Nat.le_refl _)
  rw [List.take_length, List.drop_length] at this
  rw [zFy]
  have e2 : ((s.num ((2 : Nat) : Int)).1) = (s.num 2).1 := rfl
  rw [e2] at r1
  rw [r1, Nat.min_eq_left (by omega)]
  exact ⟨this.1, this.2⟩
theorem prpS_read {l : List Prp} (hb : ∀ p ∈ l, p.name.length ≤ 24 ∧ p.value.length ≤ 64) {s : Rdr} {t : List UInt8} (h : s.At (zFc l ++ t)) :
    ∀ i, i ≤ l.length → (prpS s i).1 = l.take i ∧ (prpS s i).2.At (zFc (l.drop i) ++ t) := by
  intro i
  induction i with
  | zero => intro _; exact ⟨rfl, by rw [List.drop_zero]; exact h⟩
  | succ i ih =>
    intro hi
    obtain ⟨q1, q2⟩ := ih (by omega)
    have hil : i < l.length := by omega
    rw [List.drop_eq_getElem_cons hil] at q2
    have hc : zFc (l[i] :: l.drop (i + 1)) = (txt l[i].name ++ txt l[i].value) ++ zFc (l.drop (i + 1)) := rfl
    rw [hc, List.append_assoc, List.append_assoc] at q2
    have hbi := hb _ (List.getElem_mem hil)
    obtain ⟨r1, r2⟩ := zFz (m := 24) q2 (by omega) (by omega)
    obtain ⟨r3, r4⟩ := zFz (m := 64) r2 (by omega) (by omega)
    refine ⟨?_, r4⟩
    rw [prpS]
    simp only
    rw [r1, r3, q1, ← List.take_append_getElem hil]
theorem only1 {r : Rec} (h : r.kind = 1) (he : zCt (zDj r) = true) : r = { zCu 1 with name := r.name, many := r.many } := by
  rw [bare1 h] at he
  simp only [zCt, Bool.and_eq_true, decide_eq_true_eq] at he
  obtain ⟨kind, name, typ, frm, guid, origin, snap, props, object, at_, many, keep, data⟩ := r
  simp only at *
  simp only [zCu, Rec.mk.injEq]
  have h3 := he.2.2.2.2.2.2.2.2.2
  have p1 := List.length_eq_zero_iff.1 (show props.length = 0 by omega)
  have p2 := List.length_eq_zero_iff.1 (show keep.length = 0 by omega)
  have p3 := List.length_eq_zero_iff.1 (show data.length = 0 by omega)
  simp_all
theorem only2 {r : Rec} {k : Int} (h : r.kind = k) (hb : zDj r = { r with name := [], typ := 0, frm := 0, guid := 0, origin := 0, snap := [], props := [] }) (he : zCt (zDj r) = true) : r = { zCu k with name := r.name, typ := r.typ, frm := r.frm, guid := r.guid, origin := r.origin, snap := r.snap, props := r.props } := by
  rw [hb] at he
  simp only [zCt, Bool.and_eq_true, decide_eq_true_eq] at he
  obtain ⟨kind, name, typ, frm, guid, origin, snap, props, object, at_, many, keep, data⟩ := r
  simp only at *
  simp only [zCu, Rec.mk.injEq]
  have h3 := he.2.2.2.2.2.2.2.2.2
  simp only [List.length_nil] at h3
  have p2 := List.length_eq_zero_iff.1 (show keep.length = 0 by omega)
  have p3 := List.length_eq_zero_iff.1 (show data.length = 0 by omega)
  simp_all
theorem only3 {r : Rec} {k : Int} (h : r.kind = k) (hb : zDj r = { r with keep := [] }) (he : zCt (zDj r) = true) : r = { zCu k with keep := r.keep } := by
  rw [hb] at he
  simp only [zCt, Bool.and_eq_true, decide_eq_true_eq] at he
  obtain ⟨kind, name, typ, frm, guid, origin, snap, props, object, at_, many, keep, data⟩ := r
  simp only at *
  simp only [zCu, Rec.mk.injEq]
  have h3 := he.2.2.2.2.2.2.2.2.2
  simp only [List.length_nil] at h3
  have p1 := List.length_eq_zero_iff.1 (show props.length = 0 by omega)
  have p3 := List.length_eq_zero_iff.1 (show data.length = 0 by omega)
  simp_all
theorem only4 {r : Rec} {k : Int} (h : r.kind = k) (hb : zDj r = { r with object := 0, keep := [] }) (he : zCt (zDj r) = true) : r = { zCu k with object := r.object, keep := r.keep } := by
  rw [hb] at he
  simp only [zCt, Bool.and_eq_true, decide_eq_true_eq] at he
  obtain ⟨kind, name, typ, frm, guid, origin, snap, props, object, at_, many, keep, data⟩ := r
  simp only at *
  simp only [zCu, Rec.mk.injEq]
  have h3 := he.2.2.2.2.2.2.2.2.2
  simp only [List.length_nil] at h3
  have p1 := List.length_eq_zero_iff.1 (show props.length = 0 by omega)
  have p3 := List.length_eq_zero_iff.1 (show data.length = 0 by omega)
  simp_all
theorem only5 {r : Rec} {k : Int} (h : r.kind = k) (hb : zDj r = { r with object := 0, at_ := 0, data := [] }) (he : zCt (zDj r) = true) : r = { zCu k with object := r.object, at_ := r.at_, data := r.data } := by
  rw [hb] at he
  simp only [zCt, Bool.and_eq_true, decide_eq_true_eq] at he
  obtain ⟨kind, name, typ, frm, guid, origin, snap, props, object, at_, many, keep, data⟩ := r
  simp only at *
  simp only [zCu, Rec.mk.injEq]
  have h3 := he.2.2.2.2.2.2.2.2.2
  simp only [List.length_nil] at h3
  have p1 := List.length_eq_zero_iff.1 (show props.length = 0 by omega)
  have p2 := List.length_eq_zero_iff.1 (show keep.length = 0 by omega)
  simp_all
theorem only6 {r : Rec} {k : Int} (h : r.kind = k) (hb : zDj r = { r with many := 0 }) (he : zCt (zDj r) = true) : r = { zCu k with many := r.many } := by
  rw [hb] at he
  simp only [zCt, Bool.and_eq_true, decide_eq_true_eq] at he
  obtain ⟨kind, name, typ, frm, guid, origin, snap, props, object, at_, many, keep, data⟩ := r
  simp only at *
  simp only [zCu, Rec.mk.injEq]
  have h3 := he.2.2.2.2.2.2.2.2.2
  have p1 := List.length_eq_zero_iff.1 (show props.length = 0 by omega)
  have p2 := List.length_eq_zero_iff.1 (show keep.length = 0 by omega)
  have p3 := List.length_eq_zero_iff.1 (show data.length = 0 by omega)
  simp_all
end Go.Sl
namespace Go.Proofs.YtbogecljkaimdaaGreatDoor
open Go.Sl
set_option maxRecDepth 10000
theorem ckB_all {r : Rec} (h : ckB r = true) : inK r.kind ∧ mayK r.kind r = true ∧ zCt (zDj r) = true := by
  simp only [ckB, Bool.and_eq_true, decide_eq_true_eq] at h
  exact ⟨h.1, h.2.1, h.2.2⟩
theorem nrd1 {s : Rdr} {n : Nat} {t : List UInt8} (h : s.At (zBv n 1 ++ t)) (hn : n < 256) : (s.num 1).1 = n ∧ (s.num 1).2.At t := zGc (k := 1) h (by omega) (by omega) (by omega)
theorem nrd2 {s : Rdr} {n : Nat} {t : List UInt8} (h : s.At (zBv n 2 ++ t)) (hn : n < 65536) : (s.num 2).1 = n ∧ (s.num 2).2.At t := zGc (k := 2) h (by omega) (by omega) (by omega)
theorem nrd4 {s : Rdr} {n : Nat} {t : List UInt8} (h : s.At (zBv n 4 ++ t)) (hn : n < 4294967296) : (s.num 4).1 = n ∧ (s.num 4).2.At t := zGc (k := 4) h (by omega) (by omega) (by omega)
theorem nrd6 {s : Rdr} {n : Nat} {t : List UInt8} (h : s.At (zBv n 6 ++ t)) (hn : n < 281474976710656) : (s.num 6).1 = n ∧ (s.num 6).2.At t := zGc (k := 6) h (by omega) (by omega) (by omega)
theorem at_nil {s : Rdr} {b : List UInt8} (h : s.At b) : s.At (b ++ []) := by rwa [List.append_nil]
theorem take1_read {r : Rec} (hk : r.kind = 1) (h : may1 r = true) (he : zCt (zDj r) = true) {s : Rdr} (h0 : s.At (body1 r)) : (take1 1 s).1 = r ∧ (take1 1 s).2.At [] := by
  have hn := zKx h
  rw [body1] at h0
  obtain ⟨a1, a2⟩ := zFz (m := 24) h0 (by omega) (by omega)
  obtain ⟨b1, b2⟩ := nrd2 (at_nil a2) (by omega)
  refine ⟨?_, b2⟩
  conv => rhs; rw [only1 hk he]
  show ({ zCu 1 with name := (s.text 24).1, many := (((s.text 24).2.num 2).1 : Int) } : Rec) = _
  rw [a1, b1, Int.toNat_of_nonneg (by omega)]
theorem take3_read {r : Rec} (hk : r.kind = 3) (h : may3 r = true) (he : zCt (zDj r) = true) {s : Rdr} (h0 : s.At (body3 r)) : (take3 3 s).1 = r ∧ (take3 3 s).2.At [] := by
  have hn := zHn (l := r.keep) h
  rw [body3] at h0
  obtain ⟨a1, a2⟩ := zKa (size := 4) (more := 0) (l := r.keep) (t := []) (by omega) (by omega) hn.1 (fun n hq => by have := hn.2 n hq; omega) (by rw [List.append_nil]; exact h0)
  refine ⟨?_, a2⟩
  conv => rhs; rw [only3 hk (bare3 hk) he]
  show ({ zCu 3 with keep := (zFy s 4 0).1 } : Rec) = _
  rw [a1]
theorem take4_read {r : Rec} (hk : r.kind = 4) (h : may4 r = true) (he : zCt (zDj r) = true) {s : Rdr} (h0 : s.At (body4 r)) : (take4 4 s).1 = r ∧ (take4 4 s).2.At [] := by
  simp only [may4, Bool.and_eq_true, decide_eq_true_eq] at h
  have hn := zHn (l := r.keep) h.2.2
  rw [body4] at h0
  obtain ⟨b1, b2⟩ := nrd4 h0 (by omega)
  obtain ⟨a1, a2⟩ := zKa (size := 2) (more := 1) (l := r.keep) (t := []) (by omega) (by omega) hn.1 (fun n hq => by have := hn.2 n hq; omega) (by rw [List.append_nil]; exact b2)
  refine ⟨?_, a2⟩
  conv => rhs; rw [only4 hk (bare4 hk) he]
  show ({ zCu 4 with object := ((s.num 4).1 : Int), keep := (zFy (s.num 4).2 2 1).1 } : Rec) = _
  rw [a1, b1, Int.toNat_of_nonneg (by omega)]
theorem take5_read {r : Rec} (hk : r.kind = 5) (h : may5 r = true) (he : zCt (zDj r) = true) {s : Rdr} (h0 : s.At (body5 r)) : (take5 5 s).1 = r ∧ (take5 5 s).2.At [] := by
  simp only [may5, Bool.and_eq_true, decide_eq_true_eq] at h
  rw [body5] at h0
  obtain ⟨a1, a2⟩ := nrd4 h0 (by omega)
  obtain ⟨b1, b2⟩ := nrd2 a2 (by omega)
  obtain ⟨c1, c2⟩ := nrd2 b2 (by omega)
  obtain ⟨d1, d2⟩ := bytes_read (at_nil c2)
  have e : (((s.num 4).2.num 2).2.num 2).2.bytes ((((s.num 4).2.num 2).2.num 2).1 : Int) = (((s.num 4).2.num 2).2.num 2).2.bytes (r.data.length : Int) := by rw [c1]
  refine ⟨?_, ?_⟩
  · conv => rhs; rw [only5 hk (bare5 hk) he]
    show ({ zCu 5 with object := ((s.num 4).1 : Int), at_ := (((s.num 4).2.num 2).1 : Int) - 1, data := ((((s.num 4).2.num 2).2.num 2).2.bytes ((((s.num 4).2.num 2).2.num 2).1 : Int)).1 } : Rec) = _
    rw [e, d1, a1, b1, Int.toNat_of_nonneg (by omega), Int.toNat_of_nonneg (by omega), Int.add_sub_cancel]
  · show ((((s.num 4).2.num 2).2.num 2).2.bytes ((((s.num 4).2.num 2).2.num 2).1 : Int)).2.At []
    rw [e]; exact d2
theorem zKb {r : Rec} {k : Int} (hk : r.kind = k) (hb : zDj r = { r with many := 0 }) (h : may6 r = true) (he : zCt (zDj r) = true) {s : Rdr} (h0 : s.At (zKw r)) : (take6 k s).1 = r ∧ (take6 k s).2.At [] := by
  simp only [may6, decide_eq_true_eq] at h
  rw [zKw] at h0
  obtain ⟨a1, a2⟩ := nrd4 (at_nil h0) (by omega)
  refine ⟨?_, a2⟩
  conv => rhs; rw [only6 hk hb he]
  show ({ zCu k with many := ((s.num 4).1 : Int) } : Rec) = _
  rw [a1, Int.toNat_of_nonneg (by omega)]
theorem take2_read {r : Rec} (hk : r.kind = 2) (h : begB r = true) (he : zCt (zDj r) = true) {s : Rdr} (h0 : s.At (body2 r)) : (zJm 2 s).1 = r ∧ (zJm 2 s).2.At [] := by
  obtain ⟨q1, q2, q3, q4, q5, q6, q7⟩ := (zDx r).1 h
  have h1 := beh_len q1
  have h2 := zHh q6
  have h3 := zKy q7
  rw [body2] at h0
  obtain ⟨a1, a2⟩ := zFz (m := 240) h0 (by omega) (by omega)
  obtain ⟨b1, b2⟩ := nrd1 a2 (by omega)
  obtain ⟨c1, c2⟩ := nrd6 b2 (by omega)
  obtain ⟨d1, d2⟩ := nrd6 c2 (by omega)
  obtain ⟨e1, e2⟩ := nrd1 d2 (by omega)
  obtain ⟨f1, f2⟩ := zFz (m := 24) e2 (by omega) (by omega)
  obtain ⟨g1, g2⟩ := nrd1 f2 (by omega)
  have hp := prpS_read h3.2 (at_nil g2) r.props.length (Nat.le_refl _)
  rw [List.take_length, List.drop_length] at hp
  unfold zJm
  extract_lets n a b c d t m p
  have e : p = prpS m.2 r.props.length := by show prpS m.2 m.1 = _; rw [show m.1 = r.props.length from g1]
  have hp1 : p.1 = r.props := by rw [e]; exact hp.1
  have hp2 : p.2.At [] := by rw [e]; exact hp.2
  refine ⟨?_, hp2⟩
  conv => rhs; rw [only2 hk (bare2 hk) he]
  have a1 : n.1 = r.name := a1
  have b1 : a.1 = r.typ.toNat := b1
  have c1 : b.1 = r.frm.toNat := c1
  have d1 : c.1 = r.guid.toNat := d1
  have e1 : d.1 = r.origin.toNat := e1
  have f1 : t.1 = r.snap := f1
  show ({ zCu 2 with name := n.1, typ := a.1, frm := b.1, guid := c.1, origin := d.1, snap := t.1, props := p.1 } : Rec) = _
  rw [a1, b1, c1, d1, e1, f1, hp1, Int.toNat_of_nonneg (by omega), Int.toNat_of_nonneg (by omega), Int.toNat_of_nonneg (by omega), Int.toNat_of_nonneg (by omega)]
theorem takeK_read {r : Rec} (h : ckB r = true) {s : Rdr} (h0 : s.At (zDm r.kind r)) : (zGq r.kind s).1 = r ∧ (zGq r.kind s).2.At [] := by
  obtain ⟨h1, h2, h3⟩ := ckB_all h
  rcases zEk h1 with hk | hk | hk | hk | hk | hk | hk <;> rw [hk] at h2 h0 ⊢
  · exact take1_read hk h2 h3 h0
  · exact take2_read hk h2 h3 h0
  · exact take3_read hk h2 h3 h0
  · exact take4_read hk h2 h3 h0
  · exact take5_read hk h2 h3 h0
  · exact zKb hk (zKu (by omega) (by omega) (by omega) (by omega) (by omega)) h2 h3 h0
  · exact zKb hk (zKu (by omega) (by omega) (by omega) (by omega) (by omega)) h2 h3 h0
end Go.Proofs.YtbogecljkaimdaaGreatDoor
namespace Go.Proofs.YtbogecljkaimdaaGreatDoor
open Go.Sl
set_option maxRecDepth 10000
theorem zGt (k : Int) (body : List UInt8) (s : Fs) (t : List UInt8) : zCx k body s ++ t = zBv k.toNat 1 ++ (zBv body.length 4 ++ (body ++ (zFi (ownS k body s) ++ t))) := by
  simp only [zCx, zHj, headB, List.append_assoc]
theorem zGa {α : Type} {a b : List α} {n : Nat} (h : n = a.length) : (a ++ b).take n = a := by subst h; simp
theorem zJi {α : Type} {a b : List α} {n : Nat} (h : n = a.length) : (a ++ b).drop n = b := by subst h; simp
section
variable {k : Int} (hk : inK k) {body : List UInt8} (hb : body.length ≤ 2048) (s : Fs) (t : List UInt8)
include hk
theorem zKc : (zDz (zCx k body s ++ t) : Int) = k := by
  rw [zGt, zDz, zGa (by rw [zBa]), zFp (by have := hk.2; omega)]
  have := hk.1
  omega
include hb
omit hk in
theorem zFl : zCp (zCx k body s ++ t) = body.length := by
  rw [zGt, zCp, zJi (by rw [zBa]), zGa (by rw [zBa]), zFp (by omega)]
omit hk in
theorem piece_body : zIe (zCx k body s ++ t) = body := by
  rw [zIe, zFl hb, zGt, ← List.append_assoc, zJi (by simp [zBa]), zGa rfl]
omit hk in
theorem piece_take : (zCx k body s ++ t).take (5 + zCp (zCx k body s ++ t)) = zHj k body := by
  rw [zFl hb, zCx, List.append_assoc, zGa (by rw [zEt])]
omit hk in
theorem piece_own : ownD (zCx k body s ++ t) s = ownS k body s := by rw [ownD, piece_take hb, ownS]
omit hk in
theorem piece_seal : ((zCx k body s ++ t).drop (5 + zCp (zCx k body s ++ t))).take 32 = zFi (ownS k body s) := by
  rw [zFl hb, zCx, List.append_assoc, zJi (by rw [zEt]), zGa (by rw [zEe])]
end
theorem dec_enc {r : Rec} (h : ckB r = true) (s : Fs) (t : List UInt8) : decR (zCx r.kind (zDm r.kind r) s ++ t) s = (0, r, (zCx r.kind (zDm r.kind r) s).length, ownS r.kind (zDm r.kind r) s) := by
  obtain ⟨h1, h2, h3⟩ := ckB_all h
  have hb := zLb h1 h2
  have hl := zDy r.kind (zDm r.kind r) s
  have e1 := zKc h1 (body := zDm r.kind r) s t
  have e2 := zFl (k := r.kind) hb s t
  have e3 := piece_body (k := r.kind) hb s t
  have e4 := piece_own (k := r.kind) hb s t
  have e5 := piece_seal (k := r.kind) hb s t
  obtain ⟨q1, q2⟩ := takeK_read h (at_start (zDm r.kind r))
  have hlen : (zCx r.kind (zDm r.kind r) s ++ t).length = 37 + (zDm r.kind r).length + t.length := by rw [List.length_append, hl]
  rw [dec_6 (by omega) (by rw [e1]; exact h1) (by omega) (by omega) (by rw [e4, e5]) (by rw [e1, e3]; exact done_read q2) (by rw [e1, e3, q1]; exact h), e1, e2, e3, e4, q1, hl]
theorem dec_cut {r : Rec} (h : ckB r = true) (s : Fs) {j : Nat} (hj : j < (zCx r.kind (zDm r.kind r) s).length) : decR ((zCx r.kind (zDm r.kind r) s).take j) s = zFk 10 := by
  obtain ⟨h1, h2, h3⟩ := ckB_all h
  have hb := zLb h1 h2
  have hl := zDy r.kind (zDm r.kind r) s
  have e1 := zKc h1 (body := zDm r.kind r) s []
  have e2 := zFl (k := r.kind) hb s []
  rw [List.append_nil] at e1 e2
  have hlen : ((zCx r.kind (zDm r.kind r) s).take j).length = j := by rw [List.length_take]; omega
  by_cases h5 : j < 5
  · exact dec_1 (by omega)
  have f1 : zDz ((zCx r.kind (zDm r.kind r) s).take j) = zDz (zCx r.kind (zDm r.kind r) s) := by
    rw [zDz, zDz, List.take_take, Nat.min_eq_left (by omega)]
  have f2 : zCp ((zCx r.kind (zDm r.kind r) s).take j) = zCp (zCx r.kind (zDm r.kind r) s) := by
    rw [zCp, zCp, List.drop_take, List.take_take, Nat.min_eq_left (by omega)]
  exact dec_3 (by omega) (by rw [f1, e1]; exact h1) (by omega) (by omega)
end Go.Proofs.YtbogecljkaimdaaGreatDoor
namespace Go.Sl
section
variable {P : Program} {a : Act} {o : Oper} {n : Nat} {e : List (Nat × Value)} {x y : Operand} {w : World}
theorem equalIn_str {t : TypeId} (d : Nat) (b c : List UInt8) (ht : P.underlying t = some .string) : (Op.equalIn (d + 1) t (str b) (str c)).run P w = .ok (decide (b = c)) w := by
  have h : ((⟨b.toArray⟩ : ByteArray) == ⟨c.toArray⟩) = decide (b = c) := by
    rw [beq_toListBytes, zHy, zHy, zIn]
  simp [Op.equalIn, run_underlying ht, h]
theorem equal_strs {t t0 : TypeId} {fs : Array Field} (ht : P.underlying t = some (.struct fs)) (hp : P.stoodInHeld t = false)
    (hf : fs.toList.map (fun f => (f.name == "_", f.type, f.offset)) = [(false, t0, 0), (false, t0, 1)]) (u0 : P.underlying t0 = some .string) (p q r s : List UInt8) :
    (Op.equalIn 10000 t (.agg #[str p, str q]) (.agg #[str r, str s])).run P w = .ok (decide (p = r) && decide (q = s)) w := by
  have hS : P.underlying t = some (.struct (P.fieldsOf t)) := by simp [Program.fieldsOf, ht]
  have hfs : P.fieldsOf t = fs := by simp [Program.fieldsOf, ht]
  rw [show (10000 : Nat) = 9999 + 1 from rfl, run_equalIn_agg w 9999 t _ _ hS hp, hfs]
  generalize fs.toList = l at hf
  have hl : l.length = 2 := by simpa using congrArg List.length hf
  match l, hl, hf with
  | [f0, f1], _, hf =>
    simp only [List.map_cons, List.map_nil, List.cons.injEq, Prod.mk.injEq, beq_eq_false_iff_ne, ne_eq, and_true] at hf
    obtain ⟨⟨n0, rfl, o0⟩, n1, h1, o1⟩ := hf
    have a0 : (isAgg f0.type).run P w = .ok false w := by simp [isAgg, run_underlying u0]
    have a1 : (isAgg f1.type).run P w = .ok false w := by rw [h1]; exact a0
    have key : ∀ b c : List UInt8, (Op.equalIn 9999 f0.type (str b) (str c)).run P w = .ok (decide (b = c)) w := fun b c => equalIn_str 9998 b c u0
    simp [Op.eqFields, n0, n1, o0, o1, h1, part, a0, key]
    by_cases h1 : p = r <;> by_cases h2 : q = s <;> simp [h1, h2]
theorem rn_neq_strs (E : Fr a n e) {t t' t0 : TypeId} {fs : Array Field} {p q r s : List UInt8} (ho : o.op = .binOp .neq t x y t') (hx : ev e x = some (.agg #[str p, str q])) (hy : ev e y = some (.agg #[str r, str s]))
    (ht : P.underlying t = some (.struct fs)) (hp : P.stoodInHeld t = false) (hm : P.eqGuardType P.depth t = false)
    (hf : fs.toList.map (fun f => (f.name == "_", f.type, f.offset)) = [(false, t0, 0), (false, t0, 1)]) (u0 : P.underlying t0 = some .string) : zAw P o a w (.bool !(decide (p = r) && decide (q = s))) w := by
  have h1 := run_eqGuard_agg (P := P) w .neq t x y #[str p, str q] #[str r, str s] hm
  have h2 : (binOp .neq t (.agg #[str p, str q]) (.agg #[str r, str s])).run P w = .ok (.bool !(decide (p = r) && decide (q = s))) w := by
    rw [run_neq_struct, equal_strs ht hp hf u0]; rfl
  simp [zAw, execOp, ho, E.eval hx, E.eval hy, h1, h2]
end
theorem take_more {α : Type} {l m : List α} {i : Nat} (h : l.take i = m.take i) (hi : i < l.length) (hj : i < m.length) (he : l[i] = m[i]) : l.take (i + 1) = m.take (i + 1) := by
  rw [← List.take_append_getElem hi, ← List.take_append_getElem hj, h, he]
end Go.Sl
namespace Go.Proofs.YtbogecljkaimdaaGreatDoor
open Go.Sl
set_option maxRecDepth 10000
theorem same_ret {Ca Cb : zAs} {ra rb : Rec} {pa ka da pb kb db : Value} (ha : RecR Ca ra pa ka da) (hq : RecR Cb rb pb kb db) (hsa : Sml ra) (As : List zAs) (ma : Ca ∈ As) (mb : Cb ∈ As) (w0 : World) (H : Hp w0 As) :
    Ret Tryz.prog 13 #[.agg (ra.cells pa ka da).toArray, .agg (rb.cells pb kb db).toArray] w0 fun u w' => ∃ z, u = .bool z ∧ (z = true ↔ ra = rb) ∧ Trs w0 w' As As := by
  have S := St.begin H
  have la := hsa.props
  have lb := hsa.keep
  obtain ⟨a1, c1, rfl⟩ := ha.pr.slice
  obtain ⟨a2, c2, rfl⟩ := ha.kr.slice
  obtain ⟨a3, c3, rfl⟩ := ha.dr.slice
  obtain ⟨a4, c4, rfl⟩ := hq.pr.slice
  obtain ⟨a5, c5, rfl⟩ := hq.kr.slice
  obtain ⟨a6, c6, rfl⟩ := hq.dr.slice
  refine zCh 136 Tryz.func13 rfl rfl (by decide) ?_; intro a E
  refine wp_seq_k ?_; intro K hK
  refine zAc ?_
  refine zAm rfl (zCk E S rfl rfl (by decide) rfl rfl ?_); clear E S a; intro a w b2 E S
  refine zAm rfl (zCk E S rfl rfl (by decide) rfl rfl ?_); clear E S a; intro a w b3 E S
  refine zp E (zAe E rfl rfl) ?_; clear E a; intro a E
  refine wpList_nil ?_
  refine zAf hK ?_; clear hK; clear K
  iterate 2 (refine wp_seq_k ?_; intro K hK)
  refine zAc ?_
  refine zp E (by first | exact zAg (q := 0) E rfl rfl rfl | exact zAh (q := 0) E rfl rfl rfl) ?_; clear E a; intro a E
  refine zp E (by first | exact zAp E rfl rfl rfl (S.get (by repeat (first | exact pk1 | apply zAa))) rfl | exact zAl E rfl rfl rfl (by assumption)) ?_; clear E a; intro a E
  refine zp E (by first | exact zAg (q := 0) E rfl rfl rfl | exact zAh (q := 0) E rfl rfl rfl) ?_; clear E a; intro a E
  refine zp E (by first | exact zAp E rfl rfl rfl (S.get (by repeat (first | exact pk1 | apply zAa))) rfl | exact zAl E rfl rfl rfl (by assumption)) ?_; clear E a; intro a E
  refine zp E (by first | exact zDk E rfl rfl rfl | exact zBi E rfl rfl rfl rfl | exact zBr E rfl rfl rfl rfl | exact zBk E rfl rfl rfl) ?_; clear E a; intro a E
  refine zp E (zAd E rfl rfl) ?_; clear E a; intro a E
  refine zAv E (t := 12) rfl (fun hb12 => ?_) (fun hb12 => ?_)
  · have hb12n := hb12; replace hb12n := Nrm.nrm hb12n
    iterate 5 (refine zn E hb12 ?_; clear E a; intro a E)
    refine zp E (zAj E rfl rfl hb12 rfl) ?_; clear E a; intro a E
    refine zp E (zAd E rfl rfl) ?_; clear E a; intro a E
    iterate 5 (refine zn E rfl ?_; clear E a; intro a E)
    refine zp E (zAj E rfl rfl rfl rfl) ?_; clear E a; intro a E
    refine zp E (zAd E rfl rfl) ?_; clear E a; intro a E
    iterate 5 (refine zn E rfl ?_; clear E a; intro a E)
    refine zp E (zAj E rfl rfl rfl rfl) ?_; clear E a; intro a E
    refine zp E (zAd E rfl rfl) ?_; clear E a; intro a E
    iterate 5 (refine zn E rfl ?_; clear E a; intro a E)
    refine zp E (zAj E rfl rfl rfl rfl) ?_; clear E a; intro a E
    refine zp E (zAd E rfl rfl) ?_; clear E a; intro a E
    iterate 5 (refine zn E rfl ?_; clear E a; intro a E)
    refine zp E (zAj E rfl rfl rfl rfl) ?_; clear E a; intro a E
    refine zp E (zAd E rfl rfl) ?_; clear E a; intro a E
    iterate 5 (refine zn E rfl ?_; clear E a; intro a E)
    refine zp E (zAj E rfl rfl rfl rfl) ?_; clear E a; intro a E
    refine wpList_nil ?_
    refine zAf hK ?_; clear hK; clear K
    refine zBx E rfl rfl ?_
    refine wp_seq_k ?_; intro K hK
    replace E := E.keep (e' := [(2, _), (3, _), (4, _)]) (zAb rfl (zAb rfl (zAb rfl (zAq))))
    refine zAc ?_
    refine zp E (zAe E rfl rfl) ?_; clear E a; intro a E
    refine wpList_nil ?_
    refine zAf hK ?_; clear hK; clear K
    refine wp_ret ?_
    refine zAx ?_; clear hK; clear K
    refine ret1 E rfl rfl ?_
    exact ⟨_, rfl, _, rfl, ⟨fun q => Bool.noConfusion q, by rintro rfl; first | exact absurd rfl hb12n | exact absurd rfl hb26n | exact absurd rfl hb33n | exact absurd rfl hb40n | exact absurd rfl hb47n | (simp at hb19; done) | (simp at hb; done)⟩, S.tail2.tr⟩
  · have hb12n := hb12; replace hb12n := Nrm.nrm hb12n
    refine zy E hb12 (by first | exact zAg (q := 1) E rfl rfl rfl | exact zAh (q := 1) E rfl rfl rfl) ?_; clear E a; intro a E
    refine zy E hb12 (by first | exact zAp E rfl rfl rfl (S.get (by repeat (first | exact pk1 | apply zAa))) rfl | exact zAl E rfl rfl rfl (by assumption)) ?_; clear E a; intro a E
    refine zy E hb12 (by first | exact zAg (q := 1) E rfl rfl rfl | exact zAh (q := 1) E rfl rfl rfl) ?_; clear E a; intro a E
    refine zy E hb12 (by first | exact zAp E rfl rfl rfl (S.get (by repeat (first | exact pk1 | apply zAa))) rfl | exact zAl E rfl rfl rfl (by assumption)) ?_; clear E a; intro a E
    refine zy E hb12 (by first | exact zDk E rfl rfl rfl | exact zBi E rfl rfl rfl rfl | exact zBr E rfl rfl rfl rfl | exact zBk E rfl rfl rfl) ?_; clear E a; intro a E
    refine zp E (zAk E rfl rfl hb12 rfl) ?_; clear E a; intro a E
    refine zp E (zAd E rfl rfl) ?_; clear E a; intro a E
    refine zAv E (t := 19) rfl (fun hb19 => ?_) (fun hb19 => ?_)
    · have hb19n := hb19; replace hb19n := Nrm.nrm hb19n
      iterate 5 (refine zn E hb19 ?_; clear E a; intro a E)
      refine zp E (zAj E rfl rfl hb19 rfl) ?_; clear E a; intro a E
      refine zp E (zAd E rfl rfl) ?_; clear E a; intro a E
      iterate 5 (refine zn E rfl ?_; clear E a; intro a E)
      refine zp E (zAj E rfl rfl rfl rfl) ?_; clear E a; intro a E
      refine zp E (zAd E rfl rfl) ?_; clear E a; intro a E
      iterate 5 (refine zn E rfl ?_; clear E a; intro a E)
      refine zp E (zAj E rfl rfl rfl rfl) ?_; clear E a; intro a E
      refine zp E (zAd E rfl rfl) ?_; clear E a; intro a E
      iterate 5 (refine zn E rfl ?_; clear E a; intro a E)
      refine zp E (zAj E rfl rfl rfl rfl) ?_; clear E a; intro a E
      refine zp E (zAd E rfl rfl) ?_; clear E a; intro a E
      iterate 5 (refine zn E rfl ?_; clear E a; intro a E)
      refine zp E (zAj E rfl rfl rfl rfl) ?_; clear E a; intro a E
      refine wpList_nil ?_
      refine zAf hK ?_; clear hK; clear K
      refine zBx E rfl rfl ?_
      refine wp_seq_k ?_; intro K hK
      replace E := E.keep (e' := [(2, _), (3, _), (4, _)]) (zAb rfl (zAb rfl (zAb rfl (zAq))))
      refine zAc ?_
      refine zp E (zAe E rfl rfl) ?_; clear E a; intro a E
      refine wpList_nil ?_
      refine zAf hK ?_; clear hK; clear K
      refine wp_ret ?_
      refine zAx ?_; clear hK; clear K
      refine ret1 E rfl rfl ?_
      exact ⟨_, rfl, _, rfl, ⟨fun q => Bool.noConfusion q, by rintro rfl; first | exact absurd rfl hb12n | exact absurd rfl hb26n | exact absurd rfl hb33n | exact absurd rfl hb40n | exact absurd rfl hb47n | (simp at hb19; done) | (simp at hb; done)⟩, S.tail2.tr⟩
    · have hb19n := hb19; replace hb19n := Nrm.nrm hb19n
      refine zy E hb19 (by first | exact zAg (q := 2) E rfl rfl rfl | exact zAh (q := 2) E rfl rfl rfl) ?_; clear E a; intro a E
      refine zy E hb19 (by first | exact zAp E rfl rfl rfl (S.get (by repeat (first | exact pk1 | apply zAa))) rfl | exact zAl E rfl rfl rfl (by assumption)) ?_; clear E a; intro a E
      refine zy E hb19 (by first | exact zAg (q := 2) E rfl rfl rfl | exact zAh (q := 2) E rfl rfl rfl) ?_; clear E a; intro a E
      refine zy E hb19 (by first | exact zAp E rfl rfl rfl (S.get (by repeat (first | exact pk1 | apply zAa))) rfl | exact zAl E rfl rfl rfl (by assumption)) ?_; clear E a; intro a E
      refine zy E hb19 (by first | exact zDk E rfl rfl rfl | exact zBi E rfl rfl rfl rfl | exact zBr E rfl rfl rfl rfl | exact zBk E rfl rfl rfl) ?_; clear E a; intro a E
      refine zp E (zAk E rfl rfl hb19 rfl) ?_; clear E a; intro a E
      refine zp E (zAd E rfl rfl) ?_; clear E a; intro a E
      refine zAv E (t := 26) rfl (fun hb26 => ?_) (fun hb26 => ?_)
      · have hb26n := hb26; replace hb26n := Nrm.nrm hb26n
        iterate 5 (refine zn E hb26 ?_; clear E a; intro a E)
        refine zp E (zAj E rfl rfl hb26 rfl) ?_; clear E a; intro a E
        refine zp E (zAd E rfl rfl) ?_; clear E a; intro a E
        iterate 5 (refine zn E rfl ?_; clear E a; intro a E)
        refine zp E (zAj E rfl rfl rfl rfl) ?_; clear E a; intro a E
        refine zp E (zAd E rfl rfl) ?_; clear E a; intro a E
        iterate 5 (refine zn E rfl ?_; clear E a; intro a E)
        refine zp E (zAj E rfl rfl rfl rfl) ?_; clear E a; intro a E
        refine zp E (zAd E rfl rfl) ?_; clear E a; intro a E
        iterate 5 (refine zn E rfl ?_; clear E a; intro a E)
        refine zp E (zAj E rfl rfl rfl rfl) ?_; clear E a; intro a E
        refine wpList_nil ?_
        refine zAf hK ?_; clear hK; clear K
        refine zBx E rfl rfl ?_
        refine wp_seq_k ?_; intro K hK
        replace E := E.keep (e' := [(2, _), (3, _), (4, _)]) (zAb rfl (zAb rfl (zAb rfl (zAq))))
        refine zAc ?_
        refine zp E (zAe E rfl rfl) ?_; clear E a; intro a E
        refine wpList_nil ?_
        refine zAf hK ?_; clear hK; clear K
        refine wp_ret ?_
        refine zAx ?_; clear hK; clear K
        refine ret1 E rfl rfl ?_
        exact ⟨_, rfl, _, rfl, ⟨fun q => Bool.noConfusion q, by rintro rfl; first | exact absurd rfl hb12n | exact absurd rfl hb26n | exact absurd rfl hb33n | exact absurd rfl hb40n | exact absurd rfl hb47n | (simp at hb19; done) | (simp at hb; done)⟩, S.tail2.tr⟩
      · have hb26n := hb26; replace hb26n := Nrm.nrm hb26n
        refine zy E hb26 (by first | exact zAg (q := 3) E rfl rfl rfl | exact zAh (q := 3) E rfl rfl rfl) ?_; clear E a; intro a E
        refine zy E hb26 (by first | exact zAp E rfl rfl rfl (S.get (by repeat (first | exact pk1 | apply zAa))) rfl | exact zAl E rfl rfl rfl (by assumption)) ?_; clear E a; intro a E
        refine zy E hb26 (by first | exact zAg (q := 3) E rfl rfl rfl | exact zAh (q := 3) E rfl rfl rfl) ?_; clear E a; intro a E
        refine zy E hb26 (by first | exact zAp E rfl rfl rfl (S.get (by repeat (first | exact pk1 | apply zAa))) rfl | exact zAl E rfl rfl rfl (by assumption)) ?_; clear E a; intro a E
        refine zy E hb26 (by first | exact zDk E rfl rfl rfl | exact zBi E rfl rfl rfl rfl | exact zBr E rfl rfl rfl rfl | exact zBk E rfl rfl rfl) ?_; clear E a; intro a E
        refine zp E (zAk E rfl rfl hb26 rfl) ?_; clear E a; intro a E
        refine zp E (zAd E rfl rfl) ?_; clear E a; intro a E
        refine zAv E (t := 33) rfl (fun hb33 => ?_) (fun hb33 => ?_)
        · have hb33n := hb33; replace hb33n := Nrm.nrm hb33n
          iterate 5 (refine zn E hb33 ?_; clear E a; intro a E)
          refine zp E (zAj E rfl rfl hb33 rfl) ?_; clear E a; intro a E
          refine zp E (zAd E rfl rfl) ?_; clear E a; intro a E
          iterate 5 (refine zn E rfl ?_; clear E a; intro a E)
          refine zp E (zAj E rfl rfl rfl rfl) ?_; clear E a; intro a E
          refine zp E (zAd E rfl rfl) ?_; clear E a; intro a E
          iterate 5 (refine zn E rfl ?_; clear E a; intro a E)
          refine zp E (zAj E rfl rfl rfl rfl) ?_; clear E a; intro a E
          refine wpList_nil ?_
          refine zAf hK ?_; clear hK; clear K
          refine zBx E rfl rfl ?_
          refine wp_seq_k ?_; intro K hK
          replace E := E.keep (e' := [(2, _), (3, _), (4, _)]) (zAb rfl (zAb rfl (zAb rfl (zAq))))
          refine zAc ?_
          refine zp E (zAe E rfl rfl) ?_; clear E a; intro a E
          refine wpList_nil ?_
          refine zAf hK ?_; clear hK; clear K
          refine wp_ret ?_
          refine zAx ?_; clear hK; clear K
          refine ret1 E rfl rfl ?_
          exact ⟨_, rfl, _, rfl, ⟨fun q => Bool.noConfusion q, by rintro rfl; first | exact absurd rfl hb12n | exact absurd rfl hb26n | exact absurd rfl hb33n | exact absurd rfl hb40n | exact absurd rfl hb47n | (simp at hb19; done) | (simp at hb; done)⟩, S.tail2.tr⟩
        · have hb33n := hb33; replace hb33n := Nrm.nrm hb33n
          refine zy E hb33 (by first | exact zAg (q := 4) E rfl rfl rfl | exact zAh (q := 4) E rfl rfl rfl) ?_; clear E a; intro a E
          refine zy E hb33 (by first | exact zAp E rfl rfl rfl (S.get (by repeat (first | exact pk1 | apply zAa))) rfl | exact zAl E rfl rfl rfl (by assumption)) ?_; clear E a; intro a E
          refine zy E hb33 (by first | exact zAg (q := 4) E rfl rfl rfl | exact zAh (q := 4) E rfl rfl rfl) ?_; clear E a; intro a E
          refine zy E hb33 (by first | exact zAp E rfl rfl rfl (S.get (by repeat (first | exact pk1 | apply zAa))) rfl | exact zAl E rfl rfl rfl (by assumption)) ?_; clear E a; intro a E
          refine zy E hb33 (by first | exact zDk E rfl rfl rfl | exact zBi E rfl rfl rfl rfl | exact zBr E rfl rfl rfl rfl | exact zBk E rfl rfl rfl) ?_; clear E a; intro a E
          refine zp E (zAk E rfl rfl hb33 rfl) ?_; clear E a; intro a E
          refine zp E (zAd E rfl rfl) ?_; clear E a; intro a E
          refine zAv E (t := 40) rfl (fun hb40 => ?_) (fun hb40 => ?_)
          · have hb40n := hb40; replace hb40n := Nrm.nrm hb40n
            iterate 5 (refine zn E hb40 ?_; clear E a; intro a E)
            refine zp E (zAj E rfl rfl hb40 rfl) ?_; clear E a; intro a E
            refine zp E (zAd E rfl rfl) ?_; clear E a; intro a E
            iterate 5 (refine zn E rfl ?_; clear E a; intro a E)
            refine zp E (zAj E rfl rfl rfl rfl) ?_; clear E a; intro a E
            refine wpList_nil ?_
            refine zAf hK ?_; clear hK; clear K
            refine zBx E rfl rfl ?_
            refine wp_seq_k ?_; intro K hK
            replace E := E.keep (e' := [(2, _), (3, _), (4, _)]) (zAb rfl (zAb rfl (zAb rfl (zAq))))
            refine zAc ?_
            refine zp E (zAe E rfl rfl) ?_; clear E a; intro a E
            refine wpList_nil ?_
            refine zAf hK ?_; clear hK; clear K
            refine wp_ret ?_
            refine zAx ?_; clear hK; clear K
            refine ret1 E rfl rfl ?_
            exact ⟨_, rfl, _, rfl, ⟨fun q => Bool.noConfusion q, by rintro rfl; first | exact absurd rfl hb12n | exact absurd rfl hb26n | exact absurd rfl hb33n | exact absurd rfl hb40n | exact absurd rfl hb47n | (simp at hb19; done) | (simp at hb; done)⟩, S.tail2.tr⟩
          · have hb40n := hb40; replace hb40n := Nrm.nrm hb40n
            refine zy E hb40 (by first | exact zAg (q := 5) E rfl rfl rfl | exact zAh (q := 5) E rfl rfl rfl) ?_; clear E a; intro a E
            refine zy E hb40 (by first | exact zAp E rfl rfl rfl (S.get (by repeat (first | exact pk1 | apply zAa))) rfl | exact zAl E rfl rfl rfl (by assumption)) ?_; clear E a; intro a E
            refine zy E hb40 (by first | exact zAg (q := 5) E rfl rfl rfl | exact zAh (q := 5) E rfl rfl rfl) ?_; clear E a; intro a E
            refine zy E hb40 (by first | exact zAp E rfl rfl rfl (S.get (by repeat (first | exact pk1 | apply zAa))) rfl | exact zAl E rfl rfl rfl (by assumption)) ?_; clear E a; intro a E
            refine zy E hb40 (by first | exact zDk E rfl rfl rfl | exact zBi E rfl rfl rfl rfl | exact zBr E rfl rfl rfl rfl | exact zBk E rfl rfl rfl) ?_; clear E a; intro a E
            refine zp E (zAk E rfl rfl hb40 rfl) ?_; clear E a; intro a E
            refine zp E (zAd E rfl rfl) ?_; clear E a; intro a E
            refine zAv E (t := 47) rfl (fun hb47 => ?_) (fun hb47 => ?_)
            · have hb47n := hb47; replace hb47n := Nrm.nrm hb47n
              iterate 5 (refine zn E hb47 ?_; clear E a; intro a E)
              refine zp E (zAj E rfl rfl hb47 rfl) ?_; clear E a; intro a E
              refine wpList_nil ?_
              refine zAf hK ?_; clear hK; clear K
              refine zBx E rfl rfl ?_
              refine wp_seq_k ?_; intro K hK
              replace E := E.keep (e' := [(2, _), (3, _), (4, _)]) (zAb rfl (zAb rfl (zAb rfl (zAq))))
              refine zAc ?_
              refine zp E (zAe E rfl rfl) ?_; clear E a; intro a E
              refine wpList_nil ?_
              refine zAf hK ?_; clear hK; clear K
              refine wp_ret ?_
              refine zAx ?_; clear hK; clear K
              refine ret1 E rfl rfl ?_
              exact ⟨_, rfl, _, rfl, ⟨fun q => Bool.noConfusion q, by rintro rfl; first | exact absurd rfl hb12n | exact absurd rfl hb26n | exact absurd rfl hb33n | exact absurd rfl hb40n | exact absurd rfl hb47n | (simp at hb19; done) | (simp at hb; done)⟩, S.tail2.tr⟩
            · have hb47n := hb47; replace hb47n := Nrm.nrm hb47n
              refine zy E hb47 (by first | exact zAg (q := 6) E rfl rfl rfl | exact zAh (q := 6) E rfl rfl rfl) ?_; clear E a; intro a E
              refine zy E hb47 (by first | exact zAp E rfl rfl rfl (S.get (by repeat (first | exact pk1 | apply zAa))) rfl | exact zAl E rfl rfl rfl (by assumption)) ?_; clear E a; intro a E
              refine zy E hb47 (by first | exact zAg (q := 6) E rfl rfl rfl | exact zAh (q := 6) E rfl rfl rfl) ?_; clear E a; intro a E
              refine zy E hb47 (by first | exact zAp E rfl rfl rfl (S.get (by repeat (first | exact pk1 | apply zAa))) rfl | exact zAl E rfl rfl rfl (by assumption)) ?_; clear E a; intro a E
              refine zy E hb47 (by first | exact zDk E rfl rfl rfl | exact zBi E rfl rfl rfl rfl | exact zBr E rfl rfl rfl rfl | exact zBk E rfl rfl rfl) ?_; clear E a; intro a E
              refine zp E (zAk E rfl rfl hb47 rfl) ?_; clear E a; intro a E
              refine wpList_nil ?_
              refine zAf hK ?_; clear hK; clear K
              refine zBj E rfl (fun hb => ?_) (fun hb => ?_)
              · replace hb := Nrm.nrm hb
                refine wp_seq_k ?_; intro K hK
                replace E := E.keep (e' := [(2, _), (3, _), (4, _)]) (zAb rfl (zAb rfl (zAb rfl (zAq))))
                refine zAc ?_
                refine zp E (zAe E rfl rfl) ?_; clear E a; intro a E
                refine wpList_nil ?_
                refine zAf hK ?_; clear hK; clear K
                refine wp_ret ?_
                refine zAx ?_; clear hK; clear K
                refine ret1 E rfl rfl ?_
                exact ⟨_, rfl, _, rfl, ⟨fun q => Bool.noConfusion q, by rintro rfl; first | exact absurd rfl hb12n | exact absurd rfl hb26n | exact absurd rfl hb33n | exact absurd rfl hb40n | exact absurd rfl hb47n | (simp at hb19; done) | (simp at hb; done)⟩, S.tail2.tr⟩
              · replace hb := Nrm.nrm hb
                have hsn := hb
                refine wp_skip ?_
                refine zAf hK ?_; clear hK; clear K
                iterate 2 (refine wp_seq_k ?_; intro K hK)
                replace E := E.keep (e' := [(2, _), (3, _), (4, _)]) (zAb rfl (zAb rfl (zAb rfl (zAq))))
                refine zAc ?_
                refine zp E (by first | exact zAg (q := 8) E rfl rfl rfl | exact zAh (q := 8) E rfl rfl rfl) ?_; clear E a; intro a E
                refine zp E (by first | exact zAp E rfl rfl rfl (S.get (by repeat (first | exact pk1 | apply zAa))) rfl | exact zAl E rfl rfl rfl (by assumption)) ?_; clear E a; intro a E
                refine zp E (by first | exact zAg (q := 8) E rfl rfl rfl | exact zAh (q := 8) E rfl rfl rfl) ?_; clear E a; intro a E
                refine zp E (by first | exact zAp E rfl rfl rfl (S.get (by repeat (first | exact pk1 | apply zAa))) rfl | exact zAl E rfl rfl rfl (by assumption)) ?_; clear E a; intro a E
                refine zp E (by first | exact zDk E rfl rfl rfl | exact zBi E rfl rfl rfl rfl | exact zBr E rfl rfl rfl rfl | exact zBk E rfl rfl rfl) ?_; clear E a; intro a E
                refine zp E (zAd E rfl rfl) ?_; clear E a; intro a E
                refine zAv E (t := 59) rfl (fun hb59 => ?_) (fun hb59 => ?_)
                · have hb59n := hb59; replace hb59n := Nrm.nrm hb59n
                  iterate 5 (refine zn E hb59 ?_; clear E a; intro a E)
                  refine zp E (zAj E rfl rfl hb59 rfl) ?_; clear E a; intro a E
                  refine zp E (zAd E rfl rfl) ?_; clear E a; intro a E
                  iterate 5 (refine zn E rfl ?_; clear E a; intro a E)
                  refine zp E (zAj E rfl rfl rfl rfl) ?_; clear E a; intro a E
                  refine zp E (zAd E rfl rfl) ?_; clear E a; intro a E
                  iterate 7 (refine zn E rfl ?_; clear E a; intro a E)
                  refine zp E (zAj E rfl rfl rfl rfl) ?_; clear E a; intro a E
                  refine zp E (zAd E rfl rfl) ?_; clear E a; intro a E
                  iterate 7 (refine zn E rfl ?_; clear E a; intro a E)
                  refine zp E (zAj E rfl rfl rfl rfl) ?_; clear E a; intro a E
                  refine zp E (zAd E rfl rfl) ?_; clear E a; intro a E
                  iterate 7 (refine zn E rfl ?_; clear E a; intro a E)
                  refine zp E (zAj E rfl rfl rfl rfl) ?_; clear E a; intro a E
                  refine wpList_nil ?_
                  refine zAf hK ?_; clear hK; clear K
                  refine zBx E rfl rfl ?_
                  refine wp_seq_k ?_; intro K hK
                  replace E := E.keep (e' := [(2, _), (3, _), (4, _)]) (zAb rfl (zAb rfl (zAb rfl (zAq))))
                  refine zAc ?_
                  refine zp E (zAe E rfl rfl) ?_; clear E a; intro a E
                  refine wpList_nil ?_
                  refine zAf hK ?_; clear hK; clear K
                  refine wp_ret ?_
                  refine zAx ?_; clear hK; clear K
                  refine ret1 E rfl rfl ?_
                  exact ⟨_, rfl, _, rfl, ⟨fun q => Bool.noConfusion q, by rintro rfl; first | exact absurd rfl hb59n | exact absurd rfl hb66n | exact absurd rfl hb73n | exact absurd rfl hb82n | exact absurd rfl hb91n | (simp at hb; done)⟩, S.tail2.tr⟩
                · have hb59n := hb59; replace hb59n := Nrm.nrm hb59n
                  refine zy E hb59 (by first | exact zAg (q := 9) E rfl rfl rfl | exact zAh (q := 9) E rfl rfl rfl) ?_; clear E a; intro a E
                  refine zy E hb59 (by first | exact zAp E rfl rfl rfl (S.get (by repeat (first | exact pk1 | apply zAa))) rfl | exact zAl E rfl rfl rfl (by assumption)) ?_; clear E a; intro a E
                  refine zy E hb59 (by first | exact zAg (q := 9) E rfl rfl rfl | exact zAh (q := 9) E rfl rfl rfl) ?_; clear E a; intro a E
                  refine zy E hb59 (by first | exact zAp E rfl rfl rfl (S.get (by repeat (first | exact pk1 | apply zAa))) rfl | exact zAl E rfl rfl rfl (by assumption)) ?_; clear E a; intro a E
                  refine zy E hb59 (by first | exact zDk E rfl rfl rfl | exact zBi E rfl rfl rfl rfl | exact zBr E rfl rfl rfl rfl | exact zBk E rfl rfl rfl) ?_; clear E a; intro a E
                  refine zp E (zAk E rfl rfl hb59 rfl) ?_; clear E a; intro a E
                  refine zp E (zAd E rfl rfl) ?_; clear E a; intro a E
                  refine zAv E (t := 66) rfl (fun hb66 => ?_) (fun hb66 => ?_)
                  · have hb66n := hb66; replace hb66n := Nrm.nrm hb66n
                    iterate 5 (refine zn E hb66 ?_; clear E a; intro a E)
                    refine zp E (zAj E rfl rfl hb66 rfl) ?_; clear E a; intro a E
                    refine zp E (zAd E rfl rfl) ?_; clear E a; intro a E
                    iterate 7 (refine zn E rfl ?_; clear E a; intro a E)
                    refine zp E (zAj E rfl rfl rfl rfl) ?_; clear E a; intro a E
                    refine zp E (zAd E rfl rfl) ?_; clear E a; intro a E
                    iterate 7 (refine zn E rfl ?_; clear E a; intro a E)
                    refine zp E (zAj E rfl rfl rfl rfl) ?_; clear E a; intro a E
                    refine zp E (zAd E rfl rfl) ?_; clear E a; intro a E
                    iterate 7 (refine zn E rfl ?_; clear E a; intro a E)
                    refine zp E (zAj E rfl rfl rfl rfl) ?_; clear E a; intro a E
                    refine wpList_nil ?_
                    refine zAf hK ?_; clear hK; clear K
                    refine zBx E rfl rfl ?_
                    refine wp_seq_k ?_; intro K hK
                    replace E := E.keep (e' := [(2, _), (3, _), (4, _)]) (zAb rfl (zAb rfl (zAb rfl (zAq))))
                    refine zAc ?_
                    refine zp E (zAe E rfl rfl) ?_; clear E a; intro a E
                    refine wpList_nil ?_
                    refine zAf hK ?_; clear hK; clear K
                    refine wp_ret ?_
                    refine zAx ?_; clear hK; clear K
                    refine ret1 E rfl rfl ?_
                    exact ⟨_, rfl, _, rfl, ⟨fun q => Bool.noConfusion q, by rintro rfl; first | exact absurd rfl hb59n | exact absurd rfl hb66n | exact absurd rfl hb73n | exact absurd rfl hb82n | exact absurd rfl hb91n | (simp at hb; done)⟩, S.tail2.tr⟩
                  · have hb66n := hb66; replace hb66n := Nrm.nrm hb66n
                    refine zy E hb66 (by first | exact zAg (q := 10) E rfl rfl rfl | exact zAh (q := 10) E rfl rfl rfl) ?_; clear E a; intro a E
                    refine zy E hb66 (by first | exact zAp E rfl rfl rfl (S.get (by repeat (first | exact pk1 | apply zAa))) rfl | exact zAl E rfl rfl rfl (by assumption)) ?_; clear E a; intro a E
                    refine zy E hb66 (by first | exact zAg (q := 10) E rfl rfl rfl | exact zAh (q := 10) E rfl rfl rfl) ?_; clear E a; intro a E
                    refine zy E hb66 (by first | exact zAp E rfl rfl rfl (S.get (by repeat (first | exact pk1 | apply zAa))) rfl | exact zAl E rfl rfl rfl (by assumption)) ?_; clear E a; intro a E
                    refine zy E hb66 (by first | exact zDk E rfl rfl rfl | exact zBi E rfl rfl rfl rfl | exact zBr E rfl rfl rfl rfl | exact zBk E rfl rfl rfl) ?_; clear E a; intro a E
                    refine zp E (zAk E rfl rfl hb66 rfl) ?_; clear E a; intro a E
                    refine zp E (zAd E rfl rfl) ?_; clear E a; intro a E
                    refine zAv E (t := 73) rfl (fun hb73 => ?_) (fun hb73 => ?_)
                    · have hb73n := hb73; replace hb73n := Nrm.nrm hb73n
                      iterate 7 (refine zn E hb73 ?_; clear E a; intro a E)
                      refine zp E (zAj E rfl rfl hb73 rfl) ?_; clear E a; intro a E
                      refine zp E (zAd E rfl rfl) ?_; clear E a; intro a E
                      iterate 7 (refine zn E rfl ?_; clear E a; intro a E)
                      refine zp E (zAj E rfl rfl rfl rfl) ?_; clear E a; intro a E
                      refine zp E (zAd E rfl rfl) ?_; clear E a; intro a E
                      iterate 7 (refine zn E rfl ?_; clear E a; intro a E)
                      refine zp E (zAj E rfl rfl rfl rfl) ?_; clear E a; intro a E
                      refine wpList_nil ?_
                      refine zAf hK ?_; clear hK; clear K
                      refine zBx E rfl rfl ?_
                      refine wp_seq_k ?_; intro K hK
                      replace E := E.keep (e' := [(2, _), (3, _), (4, _)]) (zAb rfl (zAb rfl (zAb rfl (zAq))))
                      refine zAc ?_
                      refine zp E (zAe E rfl rfl) ?_; clear E a; intro a E
                      refine wpList_nil ?_
                      refine zAf hK ?_; clear hK; clear K
                      refine wp_ret ?_
                      refine zAx ?_; clear hK; clear K
                      refine ret1 E rfl rfl ?_
                      exact ⟨_, rfl, _, rfl, ⟨fun q => Bool.noConfusion q, by rintro rfl; first | exact absurd rfl hb59n | exact absurd rfl hb66n | exact absurd rfl hb73n | exact absurd rfl hb82n | exact absurd rfl hb91n | (simp at hb; done)⟩, S.tail2.tr⟩
                    · have hb73n := hb73; replace hb73n := Nrm.nrm hb73n
                      refine zy E hb73 (by first | exact zAg (q := 7) E rfl rfl rfl | exact zAh (q := 7) E rfl rfl rfl) ?_; clear E a; intro a E
                      refine zy E hb73 (by first | exact zAp E rfl rfl rfl (S.get (by repeat (first | exact pk1 | apply zAa))) rfl | exact zAl E rfl rfl rfl (by assumption)) ?_; clear E a; intro a E
                      refine zy E hb73 (by first | exact zBz E rfl rfl rfl | exact zAz E rfl rfl rfl | exact zAr E rfl rfl rfl) ?_; clear E a; intro a E
                      refine zy E hb73 (by first | exact zAg (q := 7) E rfl rfl rfl | exact zAh (q := 7) E rfl rfl rfl) ?_; clear E a; intro a E
                      refine zy E hb73 (by first | exact zAp E rfl rfl rfl (S.get (by repeat (first | exact pk1 | apply zAa))) rfl | exact zAl E rfl rfl rfl (by assumption)) ?_; clear E a; intro a E
                      refine zy E hb73 (by first | exact zBz E rfl rfl rfl | exact zAz E rfl rfl rfl | exact zAr E rfl rfl rfl) ?_; clear E a; intro a E
                      refine zy E hb73 (by first | exact zDk E rfl rfl rfl | exact zBi E rfl rfl rfl rfl | exact zBr E rfl rfl rfl rfl | exact zBk E rfl rfl rfl) ?_; clear E a; intro a E
                      refine zp E (zAk E rfl rfl hb73 rfl) ?_; clear E a; intro a E
                      refine zp E (zAd E rfl rfl) ?_; clear E a; intro a E
                      refine zAv E (t := 82) rfl (fun hb82 => ?_) (fun hb82 => ?_)
                      · have hb82n := hb82; replace hb82n := Nrm.nrm hb82n
                        iterate 7 (refine zn E hb82 ?_; clear E a; intro a E)
                        refine zp E (zAj E rfl rfl hb82 rfl) ?_; clear E a; intro a E
                        refine zp E (zAd E rfl rfl) ?_; clear E a; intro a E
                        iterate 7 (refine zn E rfl ?_; clear E a; intro a E)
                        refine zp E (zAj E rfl rfl rfl rfl) ?_; clear E a; intro a E
                        refine wpList_nil ?_
                        refine zAf hK ?_; clear hK; clear K
                        refine zBx E rfl rfl ?_
                        refine wp_seq_k ?_; intro K hK
                        replace E := E.keep (e' := [(2, _), (3, _), (4, _)]) (zAb rfl (zAb rfl (zAb rfl (zAq))))
                        refine zAc ?_
                        refine zp E (zAe E rfl rfl) ?_; clear E a; intro a E
                        refine wpList_nil ?_
                        refine zAf hK ?_; clear hK; clear K
                        refine wp_ret ?_
                        refine zAx ?_; clear hK; clear K
                        refine ret1 E rfl rfl ?_
                        exact ⟨_, rfl, _, rfl, ⟨fun q => Bool.noConfusion q, by rintro rfl; first | exact absurd rfl hb59n | exact absurd rfl hb66n | exact absurd rfl hb73n | exact absurd rfl hb82n | exact absurd rfl hb91n | (simp at hb; done)⟩, S.tail2.tr⟩
                      · have hb82n := hb82; replace hb82n := Nrm.nrm hb82n
                        refine zy E hb82 (by first | exact zAg (q := 11) E rfl rfl rfl | exact zAh (q := 11) E rfl rfl rfl) ?_; clear E a; intro a E
                        refine zy E hb82 (by first | exact zAp E rfl rfl rfl (S.get (by repeat (first | exact pk1 | apply zAa))) rfl | exact zAl E rfl rfl rfl (by assumption)) ?_; clear E a; intro a E
                        refine zy E hb82 (by first | exact zBz E rfl rfl rfl | exact zAz E rfl rfl rfl | exact zAr E rfl rfl rfl) ?_; clear E a; intro a E
                        refine zy E hb82 (by first | exact zAg (q := 11) E rfl rfl rfl | exact zAh (q := 11) E rfl rfl rfl) ?_; clear E a; intro a E
                        refine zy E hb82 (by first | exact zAp E rfl rfl rfl (S.get (by repeat (first | exact pk1 | apply zAa))) rfl | exact zAl E rfl rfl rfl (by assumption)) ?_; clear E a; intro a E
                        refine zy E hb82 (by first | exact zBz E rfl rfl rfl | exact zAz E rfl rfl rfl | exact zAr E rfl rfl rfl) ?_; clear E a; intro a E
                        refine zy E hb82 (by first | exact zDk E rfl rfl rfl | exact zBi E rfl rfl rfl rfl | exact zBr E rfl rfl rfl rfl | exact zBk E rfl rfl rfl) ?_; clear E a; intro a E
                        refine zp E (zAk E rfl rfl hb82 rfl) ?_; clear E a; intro a E
                        refine zp E (zAd E rfl rfl) ?_; clear E a; intro a E
                        refine zAv E (t := 91) rfl (fun hb91 => ?_) (fun hb91 => ?_)
                        · have hb91n := hb91; replace hb91n := Nrm.nrm hb91n
                          iterate 7 (refine zn E hb91 ?_; clear E a; intro a E)
                          refine zp E (zAj E rfl rfl hb91 rfl) ?_; clear E a; intro a E
                          refine wpList_nil ?_
                          refine zAf hK ?_; clear hK; clear K
                          refine zBx E rfl rfl ?_
                          refine wp_seq_k ?_; intro K hK
                          replace E := E.keep (e' := [(2, _), (3, _), (4, _)]) (zAb rfl (zAb rfl (zAb rfl (zAq))))
                          refine zAc ?_
                          refine zp E (zAe E rfl rfl) ?_; clear E a; intro a E
                          refine wpList_nil ?_
                          refine zAf hK ?_; clear hK; clear K
                          refine wp_ret ?_
                          refine zAx ?_; clear hK; clear K
                          refine ret1 E rfl rfl ?_
                          exact ⟨_, rfl, _, rfl, ⟨fun q => Bool.noConfusion q, by rintro rfl; first | exact absurd rfl hb59n | exact absurd rfl hb66n | exact absurd rfl hb73n | exact absurd rfl hb82n | exact absurd rfl hb91n | (simp at hb; done)⟩, S.tail2.tr⟩
                        · have hb91n := hb91; replace hb91n := Nrm.nrm hb91n
                          refine zy E hb91 (by first | exact zAg (q := 12) E rfl rfl rfl | exact zAh (q := 12) E rfl rfl rfl) ?_; clear E a; intro a E
                          refine zy E hb91 (by first | exact zAp E rfl rfl rfl (S.get (by repeat (first | exact pk1 | apply zAa))) rfl | exact zAl E rfl rfl rfl (by assumption)) ?_; clear E a; intro a E
                          refine zy E hb91 (zCd E rfl rfl rfl rfl rfl ha.dr (S.stab.at (List.Mem.tail _ (List.Mem.tail _ ma)))) ?_; clear E a; intro a E
                          refine zy E hb91 (by first | exact zAg (q := 12) E rfl rfl rfl | exact zAh (q := 12) E rfl rfl rfl) ?_; clear E a; intro a E
                          refine zy E hb91 (by first | exact zAp E rfl rfl rfl (S.get (by repeat (first | exact pk1 | apply zAa))) rfl | exact zAl E rfl rfl rfl (by assumption)) ?_; clear E a; intro a E
                          refine zy E hb91 (zCd E rfl rfl rfl rfl rfl hq.dr (S.stab.at (List.Mem.tail _ (List.Mem.tail _ mb)))) ?_; clear E a; intro a E
                          refine zy E hb91 (by first | exact zDk E rfl rfl rfl | exact zBi E rfl rfl rfl rfl | exact zBr E rfl rfl rfl rfl | exact zBk E rfl rfl rfl) ?_; clear E a; intro a E
                          refine zp E (zAk E rfl rfl hb91 rfl) ?_; clear E a; intro a E
                          refine wpList_nil ?_
                          refine zAf hK ?_; clear hK; clear K
                          refine zBj E rfl (fun hb => ?_) (fun hb => ?_)
                          · replace hb := Nrm.nrm hb
                            refine wp_seq_k ?_; intro K hK
                            replace E := E.keep (e' := [(2, _), (3, _), (4, _)]) (zAb rfl (zAb rfl (zAb rfl (zAq))))
                            refine zAc ?_
                            refine zp E (zAe E rfl rfl) ?_; clear E a; intro a E
                            refine wpList_nil ?_
                            refine zAf hK ?_; clear hK; clear K
                            refine wp_ret ?_
                            refine zAx ?_; clear hK; clear K
                            refine ret1 E rfl rfl ?_
                            exact ⟨_, rfl, _, rfl, ⟨fun q => Bool.noConfusion q, by rintro rfl; first | exact absurd rfl hb59n | exact absurd rfl hb66n | exact absurd rfl hb73n | exact absurd rfl hb82n | exact absurd rfl hb91n | (simp at hb; done)⟩, S.tail2.tr⟩
                          · replace hb := Nrm.nrm hb
                            have hdt := hb
                            refine wp_skip ?_
                            refine zAf hK ?_; clear hK; clear K
                            iterate 2 (refine wp_seq_k ?_; intro K hK)
                            replace E := E.keep (e' := [(2, _), (3, _), (4, _)]) (zAb rfl (zAb rfl (zAb rfl (zAq))))
                            have e2 : ra.name = rb.name := by simpa using hb19
                            have e7 : ra.snap = rb.snap := by simpa using hsn
                            have e13 : ra.data = rb.data := by simpa using hdt
                            have e8 : ra.props.length = rb.props.length := by omega
                            have e12 : ra.keep.length = rb.keep.length := by omega
                            refine zAc ?_
                            refine zp E (zAe E rfl rfl) ?_; clear E a; intro a E
                            refine wpList_nil ?_
                            refine zAf hK ?_; clear hK; clear K
                            refine wp_block ?_
                            refine wp_loop_ghost (fun (m : Nat) (a : Act) (w' : World) => ∃ i : Nat, m = ra.props.length - i ∧ i ≤ ra.props.length ∧ ra.props.take i = rb.props.take i ∧ St w0 As w' ([(b3, cel (rb.cells (.slice a4 rb.props.length c4) (.slice a5 rb.keep.length c5) (.slice a6 rb.data.length c6)) 26)] :: [(b2, cel (ra.cells (.slice a1 ra.props.length c1) (.slice a2 ra.keep.length c2) (.slice a3 ra.data.length c3)) 26)] :: As) ∧ Fr a 136 [(2, ptr b2), (3, ptr b3), (4, .bool false), (5, .int .i64 i)]) (ra.props.length) ?_ ?_
                            · exact ⟨0, by omega, by omega, rfl, S, E.keep (zAb rfl (zAb rfl (zAb rfl (zAb rfl zAq))))⟩
                            clear E; clear a; (try clear S); rintro m a w ⟨i, rfl, hi, he, S, E⟩
                            iterate 2 (refine wp_seq_k ?_; intro K hK)
                            refine zAc ?_
                            refine zp E (zAd E rfl rfl) ?_; clear E a; intro a E
                            refine zp E (by first | exact zAg (q := 7) E rfl rfl rfl | exact zAh (q := 7) E rfl rfl rfl) ?_; clear E a; intro a E
                            refine zp E (by first | exact zAp E rfl rfl rfl (S.get (by repeat (first | exact pk1 | apply zAa))) rfl | exact zAl E rfl rfl rfl (by assumption)) ?_; clear E a; intro a E
                            refine zp E (by first | exact zBz E rfl rfl rfl | exact zAz E rfl rfl rfl | exact zAr E rfl rfl rfl) ?_; clear E a; intro a E
                            refine zp E (zCv E rfl rfl rfl) ?_; clear E a; intro a E
                            refine wpList_nil ?_
                            refine zAf hK ?_; clear hK; clear K
                            refine zBj E rfl (fun hb => ?_) (fun hb => ?_)
                            · replace hb := Nrm.nrm hb
                              refine wp_skip ?_
                              refine zAf hK ?_; clear hK; clear K
                              refine wp_seq_k ?_; intro K hK
                              refine wp_block ?_
                              refine wp_seq_k ?_; intro K hK
                              have hil : i < ra.props.length := by omega
                              have hil2 : i < rb.props.length := by omega
                              obtain ⟨q1, o1, rfl⟩ := ha.pr.addr (by omega)
                              obtain ⟨q2, o2, rfl⟩ := hq.pr.addr (by omega)
                              obtain ⟨x1, hx1⟩ : ∃ x, x = ra.props[i] := ⟨_, rfl⟩
                              obtain ⟨x2, hx2⟩ : ∃ x, x = rb.props[i] := ⟨_, rfl⟩
                              have hl1 := ha.pr.elem (lay := Prp.lay) Prp.lay_len (S.stab.at (List.Mem.tail _ (List.Mem.tail _ ma))) hil
                              have hl2 := hq.pr.elem (lay := Prp.lay) Prp.lay_len (S.stab.at (List.Mem.tail _ (List.Mem.tail _ mb))) hil2
                              rw [← hx1] at hl1
                              rw [← hx2] at hl2
                              refine zCb S (.ofL [(0, 0), (1, 0), (2, 0), (3, 0), (4, 0), (5, 0), (6, 0), (7, 0), (8, 0), (9, 0), (10, 0)]) (by kernel_rfl) (by kernel_rfl) ?_
                              clear S; intro w S
                              refine zm E rfl (fun w h => by first | exact zAg (q := 7) E rfl rfl rfl | exact zAh (q := 7) E rfl rfl rfl) ?_; clear E a; intro a E
                              refine zm E rfl (fun w h => by first | exact zAp E rfl rfl rfl (h.one (by repeat (first | exact mm1 | assumption | apply List.Mem.tail))) rfl | exact zAl E rfl rfl rfl (by assumption)) ?_; clear E a; intro a E
                              refine zm E rfl (fun w h => zAd E rfl rfl) ?_; clear E a; intro a E
                              refine zm E rfl (fun w h => by first | exact zBu E rfl rfl rfl rfl rfl rfl (by omega) | exact zBy E rfl rfl rfl rfl rfl rfl (by omega) | exact zBf E rfl rfl rfl rfl rfl rfl (by omega)) ?_; clear E a; intro a E
                              refine zm E rfl (fun w h => zEm (vs := [_, _]) E rfl rfl rfl rfl (ha.pr.elem (lay := Prp.lay) Prp.lay_len (h.at (List.Mem.tail _ (List.Mem.tail _ ma))) hil)) ?_; clear E a; intro a E
                              refine zm E rfl (fun w h => by first | exact zAg (q := 7) E rfl rfl rfl | exact zAh (q := 7) E rfl rfl rfl) ?_; clear E a; intro a E
                              refine zm E rfl (fun w h => by first | exact zAp E rfl rfl rfl (h.one (by repeat (first | exact mm1 | assumption | apply List.Mem.tail))) rfl | exact zAl E rfl rfl rfl (by assumption)) ?_; clear E a; intro a E
                              refine zm E rfl (fun w h => zAd E rfl rfl) ?_; clear E a; intro a E
                              refine zm E rfl (fun w h => by first | exact zBu E rfl rfl rfl rfl rfl rfl (by omega) | exact zBy E rfl rfl rfl rfl rfl rfl (by omega) | exact zBf E rfl rfl rfl rfl rfl rfl (by omega)) ?_; clear E a; intro a E
                              refine zm E rfl (fun w h => zEm (vs := [_, _]) E rfl rfl rfl rfl (hq.pr.elem (lay := Prp.lay) Prp.lay_len (h.at (List.Mem.tail _ (List.Mem.tail _ mb))) hil2)) ?_; clear E a; intro a E
                              refine zm E rfl (fun w h => rn_neq_strs E rfl rfl rfl rfl (by kernel_rfl) (by kernel_rfl) rfl rfl) ?_; clear E a; intro a E
                              refine zBw ?_
                              refine zAf hK ?_; clear hK; clear K
                              refine zBj E rfl (fun hb => ?_) (fun hb => ?_)
                              · replace hb := Nrm.nrm hb
                                refine wp_seq_k ?_; intro K hK
                                refine zAc ?_
                                refine zp E (zAe E rfl rfl) ?_; clear E a; intro a E
                                refine wpList_nil ?_
                                refine zAf hK ?_; clear hK; clear K
                                refine wp_ret ?_
                                refine zCr ?_
                                refine zAx ?_; clear hK; clear K
                                refine zAx ?_
                                refine zCr ?_
                                refine zAx ?_; clear hK; clear K
                                refine ret1 E rfl rfl ?_
                                exact ⟨_, rfl, _, rfl, ⟨fun q => Bool.noConfusion q, by rintro rfl; simp at hb⟩, S.tail2.tr⟩
                              · replace hb := Nrm.nrm hb
                                refine wp_skip ?_
                                refine zBp ?_
                                refine zAf hK ?_; clear hK; clear K
                                refine zAc ?_
                                refine zp E (zAd E rfl rfl) ?_; clear E a; intro a E
                                refine zp E (zCc E rfl rfl rfl (by first | exact zCw (y := 1) (by omega) | exact w_in (by omega) | exact zCa (by omega) | exact rfl)) ?_; clear E a; intro a E
                                refine zp E (zAe E rfl rfl) ?_; clear E a; intro a E
                                refine wpList_nil ?_
                                refine zBn ?_
                                refine ⟨_, by omega, i + 1, rfl, by omega, take_more he hil hil2 ?_, S, E.keep (zAb rfl (zAb rfl (zAb rfl (zAb rfl zAq))))⟩
                                have hb : ra.props[i].name = rb.props[i].name ∧ ra.props[i].value = rb.props[i].value := by simpa using hb
                                cases hra : ra.props[i]
                                cases hrb : rb.props[i]
                                rw [hra, hrb] at hb
                                simp only at hb
                                rw [hb.1, hb.2]
                            · replace hb := Nrm.nrm hb
                              refine wp_exit ?_
                              refine zBg ?_; clear hK; clear K
                              refine zBg ?_
                              refine zDa ?_
                              refine zAf hK ?_; clear hK; clear K
                              iterate 2 (refine wp_seq_k ?_; intro K hK)
                              have e8' : ra.props = rb.props := by rw [List.take_of_length_le (by omega), List.take_of_length_le (by omega)] at he; exact he
                              refine zAc ?_
                              refine zp E (zAe E rfl rfl) ?_; clear E a; intro a E
                              refine wpList_nil ?_
                              refine zAf hK ?_; clear hK; clear K
                              refine wp_block ?_
                              refine wp_loop_ghost (fun (m : Nat) (a : Act) (w' : World) => ∃ i : Nat, m = ra.keep.length - i ∧ i ≤ ra.keep.length ∧ ra.keep.take i = rb.keep.take i ∧ St w0 As w' ([(b3, cel (rb.cells (.slice a4 rb.props.length c4) (.slice a5 rb.keep.length c5) (.slice a6 rb.data.length c6)) 26)] :: [(b2, cel (ra.cells (.slice a1 ra.props.length c1) (.slice a2 ra.keep.length c2) (.slice a3 ra.data.length c3)) 26)] :: As) ∧ Fr a 136 [(2, ptr b2), (3, ptr b3), (4, .bool false), (6, .int .i64 i)]) (ra.keep.length) ?_ ?_
                              · exact ⟨0, by omega, by omega, rfl, S, E.keep (zAb rfl (zAb rfl (zAb rfl (zAb rfl zAq))))⟩
                              clear E; clear a; (try clear S); rintro m a w ⟨j, rfl, hj, hk, S, E⟩
                              iterate 2 (refine wp_seq_k ?_; intro K hK)
                              refine zAc ?_
                              refine zp E (zAd E rfl rfl) ?_; clear E a; intro a E
                              refine zp E (by first | exact zAg (q := 11) E rfl rfl rfl | exact zAh (q := 11) E rfl rfl rfl) ?_; clear E a; intro a E
                              refine zp E (by first | exact zAp E rfl rfl rfl (S.get (by repeat (first | exact pk1 | apply zAa))) rfl | exact zAl E rfl rfl rfl (by assumption)) ?_; clear E a; intro a E
                              refine zp E (by first | exact zBz E rfl rfl rfl | exact zAz E rfl rfl rfl | exact zAr E rfl rfl rfl) ?_; clear E a; intro a E
                              refine zp E (zCv E rfl rfl rfl) ?_; clear E a; intro a E
                              refine wpList_nil ?_
                              refine zAf hK ?_; clear hK; clear K
                              refine zBj E rfl (fun hb => ?_) (fun hb => ?_)
                              · replace hb := Nrm.nrm hb
                                refine wp_skip ?_
                                refine zAf hK ?_; clear hK; clear K
                                refine wp_seq_k ?_; intro K hK
                                refine wp_block ?_
                                refine wp_seq_k ?_; intro K hK
                                have hil : j < ra.keep.length := by omega
                                have hil2 : j < rb.keep.length := by omega
                                obtain ⟨q1, o1, rfl⟩ := ha.kr.addr (by omega)
                                obtain ⟨q2, o2, rfl⟩ := hq.kr.addr (by omega)
                                refine zCb S (.ofL [(0, 0), (1, 0), (2, 0), (3, 0), (4, 0), (5, 0), (6, 0), (7, 0), (8, 0), (9, 0), (10, 0)]) (by kernel_rfl) (by kernel_rfl) ?_
                                clear S; intro w S
                                refine zm E rfl (fun w h => by first | exact zAg (q := 11) E rfl rfl rfl | exact zAh (q := 11) E rfl rfl rfl) ?_; clear E a; intro a E
                                refine zm E rfl (fun w h => by first | exact zAp E rfl rfl rfl (h.one (by repeat (first | exact mm1 | assumption | apply List.Mem.tail))) rfl | exact zAl E rfl rfl rfl (by assumption)) ?_; clear E a; intro a E
                                refine zm E rfl (fun w h => zAd E rfl rfl) ?_; clear E a; intro a E
                                refine zm E rfl (fun w h => by first | exact zBu E rfl rfl rfl rfl rfl rfl (by omega) | exact zBy E rfl rfl rfl rfl rfl rfl (by omega) | exact zBf E rfl rfl rfl rfl rfl rfl (by omega)) ?_; clear E a; intro a E
                                refine zm E rfl (fun w h => zAl E rfl rfl rfl (ha.kr.cells (h.at (List.Mem.tail _ (List.Mem.tail _ ma))) rfl j _ (zJc hil))) ?_; clear E a; intro a E
                                refine zm E rfl (fun w h => by first | exact zAg (q := 11) E rfl rfl rfl | exact zAh (q := 11) E rfl rfl rfl) ?_; clear E a; intro a E
                                refine zm E rfl (fun w h => by first | exact zAp E rfl rfl rfl (h.one (by repeat (first | exact mm1 | assumption | apply List.Mem.tail))) rfl | exact zAl E rfl rfl rfl (by assumption)) ?_; clear E a; intro a E
                                refine zm E rfl (fun w h => zAd E rfl rfl) ?_; clear E a; intro a E
                                refine zm E rfl (fun w h => by first | exact zBu E rfl rfl rfl rfl rfl rfl (by omega) | exact zBy E rfl rfl rfl rfl rfl rfl (by omega) | exact zBf E rfl rfl rfl rfl rfl rfl (by omega)) ?_; clear E a; intro a E
                                refine zm E rfl (fun w h => zAl E rfl rfl rfl (hq.kr.cells (h.at (List.Mem.tail _ (List.Mem.tail _ mb))) rfl j _ (zJc hil2))) ?_; clear E a; intro a E
                                refine zm E rfl (fun w h => by first | exact zDk E rfl rfl rfl | exact zBi E rfl rfl rfl rfl | exact zBr E rfl rfl rfl rfl | exact zBk E rfl rfl rfl) ?_; clear E a; intro a E
                                refine zBw ?_
                                refine zAf hK ?_; clear hK; clear K
                                refine zBj E rfl (fun hb => ?_) (fun hb => ?_)
                                · replace hb := Nrm.nrm hb
                                  refine wp_seq_k ?_; intro K hK
                                  refine zAc ?_
                                  refine zp E (zAe E rfl rfl) ?_; clear E a; intro a E
                                  refine wpList_nil ?_
                                  refine zAf hK ?_; clear hK; clear K
                                  refine wp_ret ?_
                                  refine zCr ?_
                                  refine zAx ?_; clear hK; clear K
                                  refine zAx ?_
                                  refine zCr ?_
                                  refine zAx ?_; clear hK; clear K
                                  refine ret1 E rfl rfl ?_
                                  exact ⟨_, rfl, _, rfl, ⟨fun q => Bool.noConfusion q, by rintro rfl; exact absurd rfl hb⟩, S.tail2.tr⟩
                                · replace hb := Nrm.nrm hb
                                  refine wp_skip ?_
                                  refine zBp ?_
                                  refine zAf hK ?_; clear hK; clear K
                                  refine zAc ?_
                                  refine zp E (zAd E rfl rfl) ?_; clear E a; intro a E
                                  refine zp E (zCc E rfl rfl rfl (by first | exact zCw (y := 1) (by omega) | exact w_in (by omega) | exact zCa (by omega) | exact rfl)) ?_; clear E a; intro a E
                                  refine zp E (zAe E rfl rfl) ?_; clear E a; intro a E
                                  refine wpList_nil ?_
                                  refine zBn ?_
                                  exact ⟨_, by omega, j + 1, rfl, by omega, take_more hk hil hil2 hb, S, E.keep (zAb rfl (zAb rfl (zAb rfl (zAb rfl zAq))))⟩
                              · replace hb := Nrm.nrm hb
                                refine wp_exit ?_
                                refine zBg ?_; clear hK; clear K
                                refine zBg ?_
                                refine zDa ?_
                                refine zAf hK ?_; clear hK; clear K
                                refine wp_seq_k ?_; intro K hK
                                refine zAc ?_
                                refine zp E (zAe E rfl rfl) ?_; clear E a; intro a E
                                refine wpList_nil ?_
                                refine zAf hK ?_; clear hK; clear K
                                refine wp_ret ?_
                                refine ret1 E rfl rfl ?_
                                have e12' : ra.keep = rb.keep := by rw [List.take_of_length_le (by omega), List.take_of_length_le (by omega)] at hk; exact hk
                                refine ⟨_, rfl, _, rfl, ⟨fun _ => ?_, fun _ => rfl⟩, S.tail2.tr⟩
                                obtain ⟨A1, A2, A3, A4, A5, A6, A7, A8, A9, A10, A11, A12, A13⟩ := ra
                                obtain ⟨B1, B2, B3, B4, B5, B6, B7, B8, B9, B10, B11, B12, B13⟩ := rb
                                simp only at *
                                simp_all
end Go.Proofs.YtbogecljkaimdaaGreatDoor
namespace Go.Sl
structure RV where
  r : Rec
  pv : Value
  kv : Value
  dv : Value
def RV.lay (x : RV) : List Value := x.r.cells x.pv x.kv x.dv
theorem RV.lay_len (x : RV) : x.lay.length = 13 := rfl
def RVs (X : zAs) (l : List RV) : Prop := ∀ x ∈ l, RecR X x.r x.pv x.kv x.dv
abbrev fsC (s : Fs) : List Value := [.int .u64 s.a, .int .u64 s.b, .int .u64 s.c, .int .u64 s.d]
theorem RecR.sub {C D : zAs} {r : Rec} {pv kv dv : Value} (h : RecR C r pv kv dv) (hs : ∀ x ∈ C, x ∈ D) : RecR D r pv kv dv := ⟨h.pr.sub hs, h.kr.sub hs, h.dr.sub hs⟩
theorem RVs.sub {C D : zAs} {l : List RV} (h : RVs C l) (hs : ∀ x ∈ C, x ∈ D) : RVs D l := fun x hx => (h x hx).sub hs
end Go.Sl
namespace Go.Proofs.YtbogecljkaimdaaGreatDoor
open Go.Sl
set_option maxRecDepth 10000
theorem piece_le {r : Rec} (h : ckB r = true) (s : Fs) : (zCx r.kind (zDm r.kind r) s).length ≤ 2085 := by
  have := zLb (ckB_use h).1 (ckB_use h).2
  rw [zDy]; omega
end Go.Proofs.YtbogecljkaimdaaGreatDoor
namespace Go.Proofs.YtbogecljkaimdaaGreatDoor
open Go.Sl
set_option maxRecDepth 10000
theorem perm_front {α : Type} {x : α} {l : List α} (h : x ∈ l) : ∃ r, l.Perm (x :: r) := by
  obtain ⟨s, t, rfl⟩ := List.append_of_mem h
  exact ⟨s ++ t, List.perm_middle⟩
end Go.Proofs.YtbogecljkaimdaaGreatDoor
namespace Go.Sl
def onlyL : List Bool → List Bool → Bool
  | [], _ => true
  | b :: r, m :: ms => (!b || m) && onlyL r ms
  | b :: r, [] => !b && onlyL r []
def flags (r : Rec) : List Bool :=
  [!decide (r.name = []), r.many != 0, r.typ != 0, r.frm != 0, r.guid != 0, r.origin != 0, !decide (r.snap = []), decide ((0 : Int) < (r.props.length : Int)), r.object != 0, r.at_ != 0, decide ((0 : Int) < (r.keep.length : Int)), decide ((0 : Int) < (r.data.length : Int))]
abbrev bo (l : List Bool) : List Value := l.map Value.bool
def msk (m : Nat) : List Bool := (List.range 12).map m.testBit
def onlyB (r : Rec) (m : Nat) : Bool := onlyL (flags r) (msk m)
end Go.Sl
namespace Go.Proofs.YtbogecljkaimdaaGreatDoor
open Go.Sl
set_option maxRecDepth 10000
section
variable {C : zAs} {r : Rec} {pv kv dv : Value} (hR : RecR C r pv kv dv) (hs : Sml r) {As : List zAs} (hC : C ∈ As) (w0 : World) (H : Hp w0 As)
include hR hs H
end
end Go.Proofs.YtbogecljkaimdaaGreatDoor
namespace Go.Sl
end Go.Sl
namespace Go.Proofs.YtbogecljkaimdaaGreatDoor
open Go.Sl
set_option maxRecDepth 10000
section
variable {C : zAs} {r : Rec} {pv kv dv : Value} (hR : RecR C r pv kv dv) (hs : Sml r) {As : List zAs} (hC : C ∈ As) (w0 : World) (H : Hp w0 As)
include hR hs hC H
omit hR hs hC H in
theorem only_e {m : Nat} (h : zCt (zDj r) = true ↔ onlyB r m = true) : zCt (zDj r) = onlyB r m := by rw [Bool.eq_iff_iff]; exact h
omit hR hs hC H in
theorem ck6 (h : r.kind = 6 ∨ r.kind = 7) : ckB r = (onlyB r 2 && may6 r) := by
  have e : zCt (zDj r) = onlyB r 2 := only_e (by
    rw [zKu (by omega) (by omega) (by omega) (by omega) (by omega)]
    simp [zCt, onlyB, flags, msk, onlyL, List.range, List.range.loop, Nat.testBit, Nat.shiftRight_eq_div_pow, List.length_eq_zero_iff]
    clear h; grind)
  rcases h with h | h <;> simp only [ckB, inK, mayK, h, e] <;> simp [Bool.and_comm]
end
end Go.Proofs.YtbogecljkaimdaaGreatDoor
namespace Go.Sl
end Go.Sl
namespace Go.Proofs.YtbogecljkaimdaaGreatDoor
open Go.Sl
set_option maxRecDepth 10000
abbrev BB (C : zAs) (v : Value) (bs : List UInt8) : Prop := Buf C 5 1 v bs.length (byt bs)
end Go.Proofs.YtbogecljkaimdaaGreatDoor
namespace Go.Proofs.YtbogecljkaimdaaGreatDoor
open Go.Sl
set_option maxRecDepth 10000
noncomputable def encR (r : Rec) (s : Fs) : Int × List UInt8 × Fs := if ckB r = true then (0, zCx r.kind (zDm r.kind r) s, ownS r.kind (zDm r.kind r) s) else (200, [], zFd)
def encQ (x : Int × List UInt8 × Fs) (As : List zAs) (w0 : World) (u : Value) (w' : World) : Prop := ∃ v D, u = .tuple #[v, x.2.2.agg, .int .i64 x.1] ∧ BB D v x.2.1 ∧ Trs w0 w' As (D :: As)
theorem zIk {r : Rec} (h : ckB r = true) (s : Fs) : encR r s = (0, zCx r.kind (zDm r.kind r) s, ownS r.kind (zDm r.kind r) s) := by rw [encR, if_pos h]
theorem encR_no {r : Rec} (h : ckB r = false) (s : Fs) : encR r s = (200, [], zFd) := by rw [encR, if_neg (by rw [h]; decide)]
theorem trs_addNil {w w' : World} {As Bs : List zAs} (h : Trs w w' As Bs) : Trs w w' As ([] :: Bs) := by simpa [Trs] using h
theorem encP_Q {r : Rec} {s : Fs} {As : List zAs} {w0 : World} {u : Value} {w' : World} (h : encP r s As w0 u w') : encQ (encR r s) As w0 u w' := by
  rcases h with ⟨h, rfl, hT⟩ | ⟨h, v, D, rfl, hB, hT⟩
  · rw [encR_no h]; exact ⟨_, [], rfl, Buf.nil _ _, trs_addNil hT⟩
  · rw [zIk h]; exact ⟨v, D, rfl, hB, hT⟩
end Go.Proofs.YtbogecljkaimdaaGreatDoor
namespace Go.Sl
def Took (s s' : Rdr) (x : List UInt8) : Prop := s'.e = 0 → s.e = 0 ∧ s'.bs = s.bs ∧ (s.at_ ≤ s.bs.length → s'.at_ ≤ s.bs.length ∧ s.bs.drop s.at_ = x ++ s.bs.drop s'.at_)
theorem Took.trans {s s' s'' : Rdr} {x y : List UInt8} (h : Took s s' x) (k : Took s' s'' y) : Took s s'' (x ++ y) := fun he => by
  obtain ⟨k1, k2, k3⟩ := k he
  obtain ⟨h1, h2, h3⟩ := h k1
  refine ⟨h1, k2.trans h2, fun hl => ?_⟩
  obtain ⟨h4, h5⟩ := h3 hl
  rw [h2] at k3
  obtain ⟨k4, k5⟩ := k3 h4
  exact ⟨k4, by rw [h5, k5, List.append_assoc]⟩
theorem Took.refl (s : Rdr) : Took s s [] := fun h => ⟨h, rfl, fun hl => ⟨hl, by simp⟩⟩
end Go.Sl
namespace Go.Proofs.YtbogecljkaimdaaGreatDoor
open Go.Sl
set_option maxRecDepth 10000
end Go.Proofs.YtbogecljkaimdaaGreatDoor
namespace Go.Sl
theorem sl_take {D : zAs} {ad : Option Addr} {c n : Nat} {b : List UInt8} (h : Rd D 1 (.slice ad b.length c) b.length (byt b)) (hc : b.length ≤ c) (hn : n ≤ b.length) :
    ∃ ad2, sliced ad 0 n c 1 = .slice ad2 (b.take n).length c ∧ Rd D 1 (.slice ad2 (b.take n).length c) (b.take n).length (byt (b.take n)) ∧ (b.take n).length ≤ c := by
  have hp := h.piece rfl (lo := 0) (hi := n) (mx := c) (Nat.zero_le _) hn (by omega)
  have hl : (b.take n).length = n := by rw [List.length_take]; omega
  simp only [Nat.mul_one, List.drop_zero, Nat.sub_zero, zGy] at hp
  have e : sliced ad 0 n c 1 = .slice (if c = 0 then ad else ad.map (·.add (0 * 1))) (b.take n).length c := by rw [hl]; rfl
  exact ⟨_, e, by rw [← e, hl]; exact hp, by omega⟩
end Go.Sl
namespace Go.Proofs.YtbogecljkaimdaaGreatDoor
open Go.Sl
set_option maxRecDepth 10000
def rec1 : Rec := { zCu 6 with many := 5 }
theorem rec1_ck : ckB rec1 = true := by rw [ck6 (.inl rfl), may6]; rfl
theorem rec1_rd (X : zAs) : RecR X rec1 nilv nilv nilv := ⟨Rd.nil _ _, Rd.nil _ _, Rd.nil _ _⟩
theorem rec1_sml : Sml rec1 := ⟨zCz, zCz, zCz, zGr, zCz, zCz⟩
theorem rec0_ck : ckE (zCu 6) = 200 := by
  have : ckB (zCu 6) = false := by rw [ck6 (.inl rfl), may6]; rfl
  simp [ckE, this]
theorem zeroR_rd (X : zAs) (k : Int) : RecR X (zCu k) nilv nilv nilv := ⟨Rd.nil _ _, Rd.nil _ _, Rd.nil _ _⟩
theorem zero_sml (k : Int) : Sml (zCu k) := ⟨zCz, zCz, zCz, zGr, zCz, zCz⟩
set_option maxHeartbeats 1000000 in
theorem awake_ret {As : List zAs} (hG : Tab As 2 shaK) (w0 : World) (H : Hp w0 As) :
    Ret Tryz.prog 9 #[] w0 fun u w' => u = .bool true ∧ Trs w0 w' As As := by
  have S := St.begin H
  have hGA : ∃ G ∈ As, ∃ T fr, ((2 : Nat), Obj.cells (u32s shaK).toArray T fr) ∈ G := hG
  obtain ⟨X, hXm, -⟩ := hGA
  have henc := zIk rec1_ck zFd
  have hdec := dec_enc rec1_ck zFd []
  rw [List.append_nil] at hdec
  obtain ⟨pb, hpb⟩ : ∃ pb, pb = zCx rec1.kind (zDm rec1.kind rec1) zFd := ⟨_, rfl⟩
  obtain ⟨own, hown⟩ : ∃ own, own = ownS rec1.kind (zDm rec1.kind rec1) zFd := ⟨_, rfl⟩
  have hpl : pb.length = 41 := by rw [hpb, zDy]; rfl
  have hp9 : pb.take 9 = [6, 4, 0, 0, 0, 5, 0, 0, 0] := by
    have e1 : (zHj rec1.kind (zDm rec1.kind rec1)) = [6, 4, 0, 0, 0, 5, 0, 0, 0] := by rfl
    rw [hpb, zCx, e1]; rfl
  rw [← hpb, ← hown] at henc hdec
  have hd4 : decR (pb.take 4) zFd = zFk 10 := dec_1 (by rw [List.length_take]; omega)
  rw [hpl] at hdec
  refine enter0 86 Tryz.func9 rfl rfl ?_; intro a E
  refine wp_seq_k ?_; intro K hK
  refine zAc ?_
  refine zp E (zAe E rfl rfl) ?_; clear E a; intro a E
  refine wpList_nil ?_
  refine zAf hK ?_; clear hK; clear K
  refine wp_seq_k ?_; intro K hK
  refine zAc ?_
  refine zp E (zCo (cells := [_, _, _, _, _, _, _, _, _, _, _, _, _]) E rfl rfl rfl) ?_; clear E a; intro a E
  refine zp E (zCo (cells := [_, _, _, _]) E rfl rfl rfl) ?_; clear E a; intro a E
  refine zAo E rfl rfl (by decide) rfl Tryz.func12 rfl (by kernel_rfl) rfl (zJz (r := rec1) (rec1_rd X) rec1_sml zFd (by repeat (first | exact hXm | apply List.Mem.tail)) (by repeat (first | exact hG | apply Tab.tail)) _ S.hp) ?_
  rintro v18 w h; clear E a; intro a E
  replace h := encP_Q h; rw [henc] at h; obtain ⟨v1, C1, rfl, hB1, hT⟩ := h; have S := S.all hT; simp only at hB1
  obtain ⟨ad1, c1, rfl⟩ := hB1.slice
  have hc1 := hB1.cap_le
  refine zp E (zAd E rfl rfl) ?_; clear E a; intro a E
  iterate 3 (refine zp E (zBd E rfl rfl rfl) ?_; clear E a; intro a E)
  refine zAm rfl (zBl E S rfl rfl (by decide) rfl rfl rfl ?_); clear E S a; intro a w b2 E S
  refine zp E (zAe E rfl rfl) ?_; clear E a; intro a E
  refine zAm rfl (zAy E S rfl rfl rfl rfl (by simp [Value.oneCell']) rfl (by repeat (first | exact pk1 | apply zAa)) (by simp) ?_); clear E S a; intro a w E S; simp only [List.take_succ_cons, List.take_zero, List.drop_succ_cons, List.drop_zero, List.cons_append, List.nil_append, List.append_nil, List.length_cons, List.length_nil, Nat.zero_add, Nat.add_zero] at S
  refine zp E (zAe E rfl rfl) ?_; clear E a; intro a E
  refine wpList_nil ?_
  refine zAf hK ?_; clear hK; clear K
  refine wp_seq_k ?_; intro K hK
  obtain ⟨a4, he4, hR4, hc4⟩ := sl_take (n := 4) hB1.rd hc1 (by omega)
  obtain ⟨a9, he9, hR9, hc9⟩ := sl_take (n := 9) hB1.rd hc1 (by omega)
  have h4l : (pb.take 4).length = 4 := by rw [List.length_take]; omega
  have h9l : (pb.take 9).length = 9 := by rw [List.length_take]; omega
  refine zAc ?_
  refine zp E (zAd E rfl rfl) ?_; clear E a; intro a E
  refine zp E (zAe E rfl rfl) ?_; clear E a; intro a E
  refine wpList_nil ?_
  refine zAf hK ?_; clear hK; clear K
  iterate 2 (refine wp_seq_k ?_; intro K hK)
  refine zAc ?_
  refine zp E (zAd E rfl rfl) ?_; clear E a; intro a E
  refine zp E (by first | exact zBz E rfl rfl rfl | exact zAz E rfl rfl rfl | exact zAr E rfl rfl rfl) ?_; clear E a; intro a E
  refine zp E (zEy E rfl rfl rfl) ?_; clear E a; intro a E
  refine wpList_nil ?_
  refine zAf hK ?_; clear hK; clear K
  refine zBx E rfl ((by rw [hpl]; rfl)) ?_
  refine zAc ?_
  refine zp E (zAd E rfl rfl) ?_; clear E a; intro a E
  refine zp E (zEu (hi := 4) (s := 1) E rfl rfl rfl rfl rfl rfl (by omega)) ?_; clear E a; intro a E
  rw [he4] at E
  have S := S.front1 (A := C1) (by repeat (first | exact pk1 | apply zAa))
  refine zp E (zAe E rfl rfl) ?_; clear E a; intro a E
  refine wpList_nil ?_
  refine zAf hK ?_; clear hK; clear K
  refine wp_seq_k ?_; intro K hK
  refine zAc ?_
  refine zp E (zAd E rfl rfl) ?_; clear E a; intro a E
  refine zp E (zCo (cells := [_, _, _, _]) E rfl rfl rfl) ?_; clear E a; intro a E
  refine zAo E rfl rfl (by decide) rfl Tryz.func19 rfl (by kernel_rfl) rfl (zHp C1 a4 c1 (pb.take 4) hR4 hc4 (by omega) zFd _ (by repeat (first | exact hG | apply Tab.tail)) _ S.hp) ?_
  rintro v31 w ⟨X4, p4, k4, d4, rfl, hX4, hT⟩; clear E a; intro a E
  rw [hd4] at E; have S := S.all hT; simp only [zFk, zCu, Rec.cells] at E
  rw [hd4] at hX4
  obtain ⟨q1, n1', rfl⟩ := hX4.rd.pr.slice
  obtain ⟨q2, n2', rfl⟩ := hX4.rd.kr.slice
  obtain ⟨q3, n3', rfl⟩ := hX4.rd.dr.slice
  refine zp E (zAd E rfl rfl) ?_; clear E a; intro a E
  iterate 4 (refine zp E (zBd E rfl rfl rfl) ?_; clear E a; intro a E)
  refine zAm rfl (zBl E S rfl rfl (by decide) rfl rfl rfl ?_); clear E S a; intro a w b5 E S
  refine zAm rfl (zBl E S rfl rfl (by decide) rfl rfl rfl ?_); clear E S a; intro a w b7 E S
  refine zAm rfl (zAy E S rfl rfl rfl rfl (by simp [Value.oneCell']) rfl (by repeat (first | exact pk1 | apply zAa)) (by simp) ?_); clear E S a; intro a w E S; simp only [List.take_succ_cons, List.take_zero, List.drop_succ_cons, List.drop_zero, List.cons_append, List.nil_append, List.append_nil, List.length_cons, List.length_nil, Nat.zero_add, Nat.add_zero] at S
  refine zp E (zAe E rfl rfl) ?_; clear E a; intro a E
  refine zAm rfl (zAy E S rfl rfl rfl rfl (by simp [Value.oneCell']) rfl (by repeat (first | exact pk1 | apply zAa)) (by simp) ?_); clear E S a; intro a w E S; simp only [List.take_succ_cons, List.take_zero, List.drop_succ_cons, List.drop_zero, List.cons_append, List.nil_append, List.append_nil, List.length_cons, List.length_nil, Nat.zero_add, Nat.add_zero] at S
  refine zp E (zAe E rfl rfl) ?_; clear E a; intro a E
  refine wpList_nil ?_
  refine zAf hK ?_; clear hK; clear K
  refine wp_seq_k ?_; intro K hK
  replace E := E.keep (e' := [(0, _), (1, _), (2, _), (3, _), (8, _)]) (zAb rfl (zAb rfl (zAb rfl (zAb rfl (zAb rfl (zAq))))))
  refine zAc ?_
  refine zp E (zAd E rfl rfl) ?_; clear E a; intro a E
  refine zp E (zCo (cells := [_, _, _, _]) E rfl rfl rfl) ?_; clear E a; intro a E
  have S := S.front1 (A := C1) (by repeat (first | exact pk1 | apply zAa))
  refine zAo E rfl rfl (by decide) rfl Tryz.func19 rfl (by kernel_rfl) rfl (zHp C1 ad1 c1 pb hB1.rd hc1 (by omega) zFd _ (by repeat (first | exact hG | apply Tab.tail)) _ S.hp) ?_
  rintro v39 w ⟨X5, p5, k5, d5, rfl, hX5, hT⟩; clear E a; intro a E
  rw [hdec] at E; have S := S.all hT; simp only [rec1, zCu, Rec.cells] at E
  rw [hdec] at hX5
  obtain ⟨q4, n4', rfl⟩ := hX5.rd.pr.slice
  obtain ⟨q5, n5', rfl⟩ := hX5.rd.kr.slice
  obtain ⟨q6, n6', rfl⟩ := hX5.rd.dr.slice
  refine zp E (zAd E rfl rfl) ?_; clear E a; intro a E
  iterate 4 (refine zp E (zBd E rfl rfl rfl) ?_; clear E a; intro a E)
  refine zAm rfl (zBl E S rfl rfl (by decide) rfl rfl rfl ?_); clear E S a; intro a w b9 E S
  refine zAm rfl (zBl E S rfl rfl (by decide) rfl rfl rfl ?_); clear E S a; intro a w b11 E S
  refine zAm rfl (zAy E S rfl rfl rfl rfl (by simp [Value.oneCell']) rfl (by repeat (first | exact pk1 | apply zAa)) (by simp) ?_); clear E S a; intro a w E S; simp only [List.take_succ_cons, List.take_zero, List.drop_succ_cons, List.drop_zero, List.cons_append, List.nil_append, List.append_nil, List.length_cons, List.length_nil, Nat.zero_add, Nat.add_zero] at S
  refine zp E (zAe E rfl rfl) ?_; clear E a; intro a E
  refine zAm rfl (zAy E S rfl rfl rfl rfl (by simp [Value.oneCell']) rfl (by repeat (first | exact pk1 | apply zAa)) (by simp) ?_); clear E S a; intro a w E S; simp only [List.take_succ_cons, List.take_zero, List.drop_succ_cons, List.drop_zero, List.cons_append, List.nil_append, List.append_nil, List.length_cons, List.length_nil, Nat.zero_add, Nat.add_zero] at S
  refine zp E (zAe E rfl rfl) ?_; clear E a; intro a E
  refine wpList_nil ?_
  refine zAf hK ?_; clear hK; clear K
  refine wp_seq_k ?_; intro K hK
  refine zAc ?_
  refine zp E (zCo (cells := [_, _, _, _, _, _, _, _, _, _, _, _, _]) E rfl rfl rfl) ?_; clear E a; intro a E
  refine zAo E rfl rfl (by decide) rfl Tryz.func11 rfl (by kernel_rfl) rfl (zJd (r := zCu 6) (zeroR_rd X 6) (zero_sml 6) (by repeat (first | exact hXm | apply List.Mem.tail)) _ S.hp) ?_
  rintro v45 w ⟨rfl, hT⟩; clear E a; intro a E
  rw [rec0_ck] at E; have S := S.all hT
  refine zp E (zAe E rfl rfl) ?_; clear E a; intro a E
  refine wpList_nil ?_
  refine zAf hK ?_; clear hK; clear K
  refine wp_seq_k ?_; intro K hK
  refine zAc ?_
  refine zp E (zAd E rfl rfl) ?_; clear E a; intro a E
  refine zp E (by first | exact zBz E rfl rfl rfl | exact zAz E rfl rfl rfl | exact zAr E rfl rfl rfl) ?_; clear E a; intro a E
  refine zp E (by first | exact zCf E rfl rfl rfl | exact zAt E rfl rfl rfl rfl | exact zBb E rfl rfl rfl rfl | exact zAu E rfl rfl rfl) ?_; clear E a; intro a E
  refine zp E (zAd E rfl rfl) ?_; clear E a; intro a E
  refine zCj E (t := 49) rfl ((by rw [hpl]; rfl)) (fun hb49 => ?_)
  refine zy E hb49 (zAd E rfl rfl) ?_; clear E a; intro a E
  refine zy E hb49 (zEu (hi := 9) (s := 1) E rfl rfl rfl rfl rfl rfl (by omega)) ?_; clear E a; intro a E
  rw [he9] at E
  refine zy E hb49 (zCd E rfl rfl rfl rfl rfl hR9 (S.stab.at (by repeat (first | exact mm1 | assumption | apply List.Mem.tail)))) ?_; clear E a; intro a E
  refine zy E hb49 (by first | exact zCf E rfl rfl rfl | exact zAt E rfl rfl rfl rfl | exact zBb E rfl rfl rfl rfl | exact zAu E rfl rfl rfl) ?_; clear E a; intro a E
  refine zp E (zAj E rfl rfl hb49 rfl) ?_; clear E a; intro a E
  refine zp E (zAd E rfl rfl) ?_; clear E a; intro a E
  refine zCj E (t := 55) rfl ((decide_eq_true hp9)) (fun hb55 => ?_)
  refine zy E hb55 (zAd E rfl rfl) ?_; clear E a; intro a E
  refine zy E hb55 (by first | exact zCf E rfl rfl rfl | exact zAt E rfl rfl rfl rfl | exact zBb E rfl rfl rfl rfl | exact zAu E rfl rfl rfl) ?_; clear E a; intro a E
  refine zp E (zAj E rfl rfl hb55 rfl) ?_; clear E a; intro a E
  refine zp E (zAd E rfl rfl) ?_; clear E a; intro a E
  refine zCj E (t := 59) rfl (rfl) (fun hb59 => ?_)
  refine zy E hb59 (zAd E rfl rfl) ?_; clear E a; intro a E
  refine zy E hb59 (by first | exact zCf E rfl rfl rfl | exact zAt E rfl rfl rfl rfl | exact zBb E rfl rfl rfl rfl | exact zAu E rfl rfl rfl) ?_; clear E a; intro a E
  refine zp E (zAj E rfl rfl hb59 rfl) ?_; clear E a; intro a E
  refine zp E (zAe E rfl rfl) ?_; clear E a; intro a E
  refine wpList_nil ?_
  refine zAf hK ?_; clear hK; clear K
  refine wp_seq_k ?_; intro K hK
  replace E := E.keep (e' := [(0, _), (2, _), (9, _), (10, _), (11, _), (12, _), (13, _), (14, _)]) (zAb rfl (zAb rfl (zAb rfl (zAb rfl (zAb rfl (zAb rfl (zAb rfl (zAb rfl (zAq)))))))))
  refine zAc ?_
  iterate 2 (refine zp E (zAd E rfl rfl) ?_; clear E a; intro a E)
  refine zCj E (t := 64) rfl (rfl) (fun hb64 => ?_)
  refine zy E hb64 (by first | exact zAg (q := 10) E rfl rfl rfl | exact zAh (q := 10) E rfl rfl rfl) ?_; clear E a; intro a E
  refine zy E hb64 (by first | exact zAp E rfl rfl rfl (S.get (by repeat (first | exact pk1 | apply zAa))) rfl | exact zAl E rfl rfl rfl (by assumption)) ?_; clear E a; intro a E
  refine zy E hb64 (by first | exact zCf E rfl rfl rfl | exact zAt E rfl rfl rfl rfl | exact zBb E rfl rfl rfl rfl | exact zAu E rfl rfl rfl) ?_; clear E a; intro a E
  refine zp E (zAj E rfl rfl hb64 rfl) ?_; clear E a; intro a E
  refine zp E (zAd E rfl rfl) ?_; clear E a; intro a E
  refine zCj E (t := 69) rfl (rfl) (fun hb69 => ?_)
  refine zy E hb69 (zAd E rfl rfl) ?_; clear E a; intro a E
  refine zy E hb69 (by first | exact zCf E rfl rfl rfl | exact zAt E rfl rfl rfl rfl | exact zBb E rfl rfl rfl rfl | exact zAu E rfl rfl rfl) ?_; clear E a; intro a E
  refine zp E (zAj E rfl rfl hb69 rfl) ?_; clear E a; intro a E
  refine zp E (zAd E rfl rfl) ?_; clear E a; intro a E
  refine zCj E (t := 73) rfl (rfl) (fun hb73 => ?_)
  iterate 2 (refine zy E hb73 (zBm (vs := [_, _, _, _]) E rfl rfl rfl (S.get (by repeat (first | exact pk1 | apply zAa))) rfl rfl) ?_; clear E a; intro a E)
  refine zy E hb73 (by first | exact zIv E rfl rfl rfl rfl (by kernel_rfl) (by kernel_rfl) rfl rfl rfl | exact zHw E rfl rfl rfl rfl (by kernel_rfl) (by kernel_rfl) rfl) ?_; clear E a; intro a E
  refine zp E (zAj E rfl rfl hb73 rfl) ?_; clear E a; intro a E
  refine zp E (zAd E rfl rfl) ?_; clear E a; intro a E
  refine zCj E (t := 78) rfl ((by simp)) (fun hb78 => ?_)
  refine zy E hb78 (zAd E rfl rfl) ?_; clear E a; intro a E
  refine zy E hb78 (by first | exact zCf E rfl rfl rfl | exact zAt E rfl rfl rfl rfl | exact zBb E rfl rfl rfl rfl | exact zAu E rfl rfl rfl) ?_; clear E a; intro a E
  refine zp E (zAj E rfl rfl hb78 rfl) ?_; clear E a; intro a E
  refine zp E (zAd E rfl rfl) ?_; clear E a; intro a E
  refine zCj E (t := 82) rfl (rfl) (fun hb82 => ?_)
  refine zy E hb82 (zAd E rfl rfl) ?_; clear E a; intro a E
  refine zy E hb82 (by first | exact zCf E rfl rfl rfl | exact zAt E rfl rfl rfl rfl | exact zBb E rfl rfl rfl rfl | exact zAu E rfl rfl rfl) ?_; clear E a; intro a E
  refine zp E (zAj E rfl rfl hb82 rfl) ?_; clear E a; intro a E
  refine zp E (zAe E rfl rfl) ?_; clear E a; intro a E
  refine wpList_nil ?_
  refine zAf hK ?_; clear hK; clear K
  refine wp_ret ?_
  refine ret1 E rfl rfl ?_
  exact ⟨_, rfl, rfl, by repeat (first | exact S.tr | replace S := S.tail)⟩
end Go.Proofs.YtbogecljkaimdaaGreatDoor
namespace Go.Proofs.YtbogecljkaimdaaGreatDoor
open Go.Sl
set_option maxRecDepth 10000
theorem zEi (D : zAs) (ad : Option Addr) (c : Nat) (b : List UInt8) (hD : Rd D 1 (.slice ad b.length c) b.length (byt b)) (hcap : b.length ≤ c) (hbl : b.length ≤ 4000000) (s : Fs) {As : List zAs} (mD : D ∈ As) (hG : Tab As 2 shaK) (w0 : World) (H : Hp w0 As) :
    Ret Tryz.prog 19 #[.slice ad b.length c, s.agg] w0 (decP (decR b s) As w0) := by
  obtain ⟨pre, hpre⟩ := perm_front mD
  refine (zHp D ad c b hD hcap hbl s pre (hG.sub fun Q hQ => hpre.mem_iff.1 hQ) w0 (St.begin H |>.perm hpre).hp).mono fun u w' ⟨X, pv, kv, dv, he, hX, hT⟩ => ⟨X, pv, kv, dv, he, hX, ?_⟩
  exact (((St.begin H).perm hpre).all hT |>.perm (hpre.symm.cons X)).tr
theorem encode2_ret {C : zAs} {r : Rec} {pv kv dv : Value} (hR : RecR C r pv kv dv) (hs : Sml r) (s : Fs) {As : List zAs} (hC : C ∈ As) (hG : Tab As 2 shaK) (w0 : World) (H : Hp w0 As) :
    Ret Tryz.prog 12 #[.agg (r.cells pv kv dv).toArray, s.agg] w0 (encQ (encR r s) As w0) := (zJz hR hs s hC hG w0 H).mono fun _ _ h => encP_Q h
theorem encR_len (r : Rec) (s : Fs) : (encR r s).2.1.length ≤ 2085 := by
  cases h : ckB r with
  | true => rw [zIk h]; exact piece_le h s
  | false => rw [encR_no h]; simp
end Go.Proofs.YtbogecljkaimdaaGreatDoor
