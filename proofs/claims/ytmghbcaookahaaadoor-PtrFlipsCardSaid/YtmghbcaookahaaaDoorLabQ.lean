/-
  Labels and uberblocks, plain: their bytes, there and back.
-/
import Derived.Test.YtmghbcaookahaaaDoorLabP
namespace Go.Sl

structure Tp where
  kind : Int
  leaves : Int
  sectors : Int
deriving DecidableEq
def Tp.lay (t : Tp) : List Value := [.int .i64 t.kind, .int .i64 t.leaves, .int .i64 t.sectors]
abbrev Tp.agg (t : Tp) : Value := .agg #[.int .i64 t.kind, .int .i64 t.leaves, .int .i64 t.sectors]
theorem Tp.lay_len (t : Tp) : t.lay.length = 3 := rfl
theorem Tp.lay_one (t : Tp) : ∀ u ∈ t.lay, u.oneCell' = true := fun u hu => by
  simp only [Tp.lay, List.mem_cons, List.not_mem_nil, or_false] at hu
  rcases hu with rfl | rfl | rfl <;> rfl
structure Tp.Ok (t : Tp) : Prop where
  kind : -9223372036854775808 ≤ t.kind ∧ t.kind ≤ 9223372036854775807
  leaves : -9223372036854775808 ≤ t.leaves ∧ t.leaves ≤ 9223372036854775807
  sectors : -9223372036854775808 ≤ t.sectors ∧ t.sectors ≤ 9223372036854775807
def tpZero : Tp := ⟨0, 0, 0⟩
/-- May a top be so? -/
def Tp.made (t : Tp) : Prop := 324 ≤ t.sectors ∧ t.sectors ≤ 8192 ∧ (t.kind = 1 ∧ t.leaves = 1 ∨ t.kind = 2 ∧ 2 ≤ t.leaves ∧ t.leaves ≤ 5 ∨ t.kind = 3 ∧ 3 ≤ t.leaves ∧ t.leaves ≤ 5)
instance (t : Tp) : Decidable t.made := by unfold Tp.made; infer_instance
def tpB (t : Tp) : List UInt8 := formOf t.kind.toNat 1 ++ (formOf t.leaves.toNat 1 ++ formOf t.sectors.toNat 4)
theorem tpB_length (t : Tp) : (tpB t).length = 6 := by simp [tpB, formOf_length]
def tpAt (b : List UInt8) (q : Nat) : Tp := ⟨nm b q 1, nm b (q + 1) 1, nm b (q + 2) 4⟩
theorem tpAt_enc {t : Tp} (h : t.made) (x y : List UInt8) {q : Nat} (hx : x.length = q) : tpAt (x ++ (tpB t ++ y)) q = t := by
  obtain ⟨h1, h2, h3⟩ := h
  have e1 := p1; have e4 := p4
  have f1 := nm_form x (formOf t.leaves.toNat 1 ++ (formOf t.sectors.toNat 4 ++ y)) t.kind.toNat (q := q) (k := 1) hx (by omega)
  have f2 := nm_form (x ++ formOf t.kind.toNat 1) (formOf t.sectors.toNat 4 ++ y) t.leaves.toNat (q := q + 1) (k := 1) (by simp [formOf_length, hx]) (by omega)
  have f3 := nm_form (x ++ (formOf t.kind.toNat 1 ++ formOf t.leaves.toNat 1)) y t.sectors.toNat (q := q + 2) (k := 4) (by simp [formOf_length, hx]) (by omega)
  simp only [List.append_assoc] at f1 f2 f3
  simp only [tpAt, tpB, List.append_assoc, f1, f2, f3]
  cases t with | mk k l s => simp only [Tp.mk.injEq]; simp only at h1 h2 h3; omega

structure Lbl where
  pool : Nat
  tops : List Tp
  top : Int
  place : Int
deriving DecidableEq
structure Lbl.Ok (l : Lbl) : Prop where
  pool : l.pool < 18446744073709551616
  top : -9223372036854775808 ≤ l.top ∧ l.top ≤ 9223372036854775807
  place : -9223372036854775808 ≤ l.place ∧ l.place ≤ 9223372036854775807
  tops : ∀ t ∈ l.tops, t.Ok
def lbZero : Lbl := ⟨0, [], 0, 0⟩
/-- May a label be so? -/
def Lbl.may (l : Lbl) : Prop := 1 ≤ l.tops.length ∧ l.tops.length ≤ 4 ∧ 0 ≤ l.top ∧ l.top < l.tops.length ∧ 0 ≤ l.place ∧ l.place < (l.tops.getD l.top.toNat tpZero).leaves ∧ ∀ t ∈ l.tops, t.made
instance (l : Lbl) : Decidable l.may := by unfold Lbl.may; infer_instance
def lbE (l : Lbl) : Int := if l.may then 0 else 42
def lLet : List UInt8 := [85, 67, 76, 66]
def uLet : List UInt8 := [85, 67, 85, 66]
def lbH (l : Lbl) : List UInt8 := lLet ++ (formOf l.pool 8 ++ (formOf l.top.toNat 1 ++ (formOf l.place.toNat 1 ++ formOf l.tops.length 1)))
theorem lbH_length (l : Lbl) : (lbH l).length = 15 := by simp [lbH, lLet, formOf_length]
def lbB (l : Lbl) : List UInt8 := lbH l ++ l.tops.flatMap tpB
theorem tops_len : ∀ l : List Tp, (l.flatMap tpB).length = 6 * l.length
  | [] => rfl
  | t :: r => by rw [List.flatMap_cons, List.length_append, tpB_length, tops_len r, List.length_cons]; omega
theorem lbB_length (l : Lbl) : (lbB l).length = 15 + 6 * l.tops.length := by rw [lbB, List.length_append, lbH_length, tops_len]
def lbO (l : Lbl) : List UInt8 := if lbE l = 0 then whole (lbB l) else []
def lbAt (x : List UInt8) : Lbl := ⟨nm x 4 8, (List.range (nm x 14 1)).map fun i => tpAt x (15 + 6 * i), nm x 12 1, nm x 13 1⟩
def lbdecE (b : List UInt8) : Int :=
  if openB b lLet = false then 43 else if 4 < nm (b.take 96) 14 1 then 43
  else if (b.take 96).drop (15 + 6 * nm (b.take 96) 14 1) ≠ List.replicate (96 - (15 + 6 * nm (b.take 96) 14 1)) 0 then 43 else lbE (lbAt (b.take 96))
def lbdec (b : List UInt8) : Lbl := if lbdecE b = 0 then lbAt (b.take 96) else lbZero
theorem tops_at (h : List UInt8) (y : List UInt8) : ∀ (l : List Tp) (x : List UInt8) {q : Nat}, x.length = q → (∀ t ∈ l, t.made) → (List.range l.length).map (fun i => tpAt (x ++ (l.flatMap tpB ++ y)) (q + 6 * i)) = l
  | [], _, _, _, _ => rfl
  | t :: r, x, q, hx, hm => by
    have ih := tops_at h y r (x ++ tpB t) (q := q + 6) (by rw [List.length_append, tpB_length, hx]) (fun u hu => hm u (by simp [hu]))
    rw [List.length_cons, List.range_succ_eq_map, List.map_cons, List.map_map]
    have h0 : tpAt (x ++ ((t :: r).flatMap tpB ++ y)) (q + 6 * 0) = t := by
      rw [List.flatMap_cons, List.append_assoc]; exact tpAt_enc (hm t (by simp)) x _ hx
    rw [h0]
    congr 1
    conv => rhs; rw [← ih]
    apply List.map_congr_left
    intro i _
    simp only [Function.comp]
    rw [List.flatMap_cons, List.append_assoc, List.append_assoc, show q + 6 * (i + 1) = q + 6 + 6 * i by omega]
theorem lbdec_enc {l : Lbl} (h : lbE l = 0) (ho : l.Ok) : lbdecE (whole (lbB l)) = 0 ∧ lbdec (whole (lbB l)) = l := by
  have hm : l.may := by unfold lbE at h; split at h; · assumption
                        · cases h
  obtain ⟨m1, m2, m3, m4, m5, m6, m7⟩ := hm
  have hl := lbB_length l
  obtain ⟨o1, o2⟩ := open_whole (x := lbB l) (letters := lLet) (by omega) rfl ⟨_, by rw [lbB, lbH, List.append_assoc]⟩
  have hpl : l.place ≤ 5 := by
    have : l.top.toNat < l.tops.length := by omega
    have hmem : l.tops.getD l.top.toNat tpZero ∈ l.tops := by simp [List.getD, this]
    have := m7 _ hmem
    unfold Tp.made at this
    omega
  have e1 := p1; have e8 := p8
  have hpool := ho.pool
  have hx : pad96 (lbB l) = lbH l ++ (l.tops.flatMap tpB ++ List.replicate (96 - (lbB l).length) 0) := by rw [pad96, lbB, List.append_assoc]
  have f1 := nm_form lLet ((formOf l.top.toNat 1 ++ (formOf l.place.toNat 1 ++ formOf l.tops.length 1)) ++ (l.tops.flatMap tpB ++ List.replicate (96 - (lbB l).length) 0)) l.pool (q := 4) (k := 8) rfl (by omega)
  have f2 := nm_form (lLet ++ formOf l.pool 8) ((formOf l.place.toNat 1 ++ formOf l.tops.length 1) ++ (l.tops.flatMap tpB ++ List.replicate (96 - (lbB l).length) 0)) l.top.toNat (q := 12) (k := 1) (by simp [lLet, formOf_length]) (by omega)
  have f3 := nm_form (lLet ++ (formOf l.pool 8 ++ formOf l.top.toNat 1)) (formOf l.tops.length 1 ++ (l.tops.flatMap tpB ++ List.replicate (96 - (lbB l).length) 0)) l.place.toNat (q := 13) (k := 1) (by simp [lLet, formOf_length]) (by omega)
  have f4 := nm_form (lLet ++ (formOf l.pool 8 ++ (formOf l.top.toNat 1 ++ formOf l.place.toNat 1))) (l.tops.flatMap tpB ++ List.replicate (96 - (lbB l).length) 0) l.tops.length (q := 14) (k := 1) (by simp [lLet, formOf_length]) (by omega)
  have f5 := tops_at [] (List.replicate (96 - (lbB l).length) 0) l.tops (lbH l) (q := 15) (lbH_length l) m7
  have hx2 : pad96 (lbB l) = lLet ++ (formOf l.pool 8 ++ (formOf l.top.toNat 1 ++ (formOf l.place.toNat 1 ++ (formOf l.tops.length 1 ++ (l.tops.flatMap tpB ++ List.replicate (96 - (lbB l).length) 0))))) := by
    rw [hx, lbH]; simp only [List.append_assoc]
  simp only [List.append_assoc] at f1 f2 f3 f4
  rw [← hx2] at f1 f2 f3 f4
  rw [← hx] at f5
  have hat : lbAt (pad96 (lbB l)) = l := by
    simp only [lbAt, f1, f2, f3, f4, f5]
    cases l with | mk p t tp pl => simp only [Lbl.mk.injEq]; simp only at m3 m5; exact ⟨trivial, trivial, by omega, by omega⟩
  have hd : (pad96 (lbB l)).drop (15 + 6 * nm (pad96 (lbB l)) 14 1) = List.replicate (96 - (15 + 6 * nm (pad96 (lbB l)) 14 1)) 0 := by
    rw [f4, pad96, List.drop_left' hl, hl]
  have hE : lbdecE (whole (lbB l)) = 0 := by
    unfold lbdecE
    rw [o2, if_neg (by rw [o1]; decide), if_neg (by rw [f4]; omega), if_neg (fun q => q hd), hat, h]
  exact ⟨hE, by rw [lbdec, if_pos hE, o2, hat]⟩
theorem lbdec_flip {l : Lbl} (h : lbE l = 0) {p : Nat} (hp : p < 128) {y : UInt8} (hy : ∀ h : p < (whole (lbB l)).length, y ≠ (whole (lbB l))[p]) : lbdecE ((whole (lbB l)).set p y) = 43 ∧ lbdec ((whole (lbB l)).set p y) = lbZero := by
  have hm : l.may := by unfold lbE at h; split at h; · assumption
                        · cases h
  have hl := lbB_length l
  have o1 := (open_whole (x := lbB l) (letters := lLet) (by have := hm.2.1; omega) rfl ⟨_, by rw [lbB, lbH, List.append_assoc]⟩).1
  have hE : lbdecE ((whole (lbB l)).set p y) = 43 := by unfold lbdecE; rw [if_pos (open_flip o1 hp hy)]
  exact ⟨hE, by rw [lbdec, hE]; rfl⟩

structure Ub where
  pool : Nat
  txg : Nat
  note : Nat
  root : Pt
deriving DecidableEq
def Ub.lay (u : Ub) : List Value := [.int .u64 u.pool, .int .u64 u.txg, .int .u64 u.note, .int .i64 u.root.top, .int .i64 u.root.at_, .int .i64 u.root.bytes, .int .u64 u.root.birth, .int .i64 u.root.kind, .int .u64 u.root.a, .int .u64 u.root.b, .int .u64 u.root.c, .int .u64 u.root.d]
abbrev Ub.agg (u : Ub) : Value := .agg #[.int .u64 u.pool, .int .u64 u.txg, .int .u64 u.note, .int .i64 u.root.top, .int .i64 u.root.at_, .int .i64 u.root.bytes, .int .u64 u.root.birth, .int .i64 u.root.kind, .int .u64 u.root.a, .int .u64 u.root.b, .int .u64 u.root.c, .int .u64 u.root.d]
structure Ub.Ok (u : Ub) : Prop where
  pool : u.pool < 18446744073709551616
  txg : u.txg < 18446744073709551616
  note : u.note < 18446744073709551616
  root : u.root.Ok
def ubZero : Ub := ⟨0, 0, 0, ptZero⟩
def ubE (u : Ub) : Int := if 1 ≤ u.txg ∧ u.txg ≤ 281474976710656 ∧ ptE u.root = 0 ∧ u.root.birth ≤ u.txg then 0 else 44
def ubB (u : Ub) : List UInt8 := uLet ++ (formOf u.pool 8 ++ (formOf u.txg 8 ++ (formOf u.note 8 ++ ptB u.root)))
theorem ubB_length (u : Ub) : (ubB u).length = 76 := by simp [ubB, uLet, formOf_length, ptB_length]
def ubO (u : Ub) : List UInt8 := if ubE u = 0 then whole (ubB u) else []
def ubAt (x : List UInt8) : Ub := ⟨nm x 4 8, nm x 12 8, nm x 20 8, ptAt x 28⟩
def ubdecE (b : List UInt8) : Int := if openB b uLet = false then 45 else if (b.take 96).drop 76 ≠ List.replicate 20 0 then 45 else ubE (ubAt (b.take 96))
def ubdec (b : List UInt8) : Ub := if ubdecE b = 0 then ubAt (b.take 96) else ubZero
theorem ubE_ok {u : Ub} (h : ubE u = 0) : 1 ≤ u.txg ∧ u.txg ≤ 281474976710656 ∧ ptE u.root = 0 ∧ u.root.birth ≤ u.txg := by
  unfold ubE at h; split at h
  · assumption
  · cases h
theorem ubdec_enc {u : Ub} (h : ubE u = 0) (ho : u.Ok) : ubdecE (whole (ubB u)) = 0 ∧ ubdec (whole (ubB u)) = u := by
  obtain ⟨m1, m2, m3, m4⟩ := ubE_ok h
  have hl := ubB_length u
  have e8 := p8
  have q1 := ho.pool; have q2 := ho.txg; have q3 := ho.note
  obtain ⟨o1, o2⟩ := open_whole (x := ubB u) (letters := uLet) (by omega) rfl ⟨_, rfl⟩
  have hx : pad96 (ubB u) = uLet ++ (formOf u.pool 8 ++ (formOf u.txg 8 ++ (formOf u.note 8 ++ (ptB u.root ++ List.replicate 20 0)))) := by
    rw [pad96, hl, ubB]; simp only [List.append_assoc]
  have f1 := nm_form uLet (formOf u.txg 8 ++ (formOf u.note 8 ++ (ptB u.root ++ List.replicate 20 0))) u.pool (q := 4) (k := 8) rfl (by omega)
  have f2 := nm_form (uLet ++ formOf u.pool 8) (formOf u.note 8 ++ (ptB u.root ++ List.replicate 20 0)) u.txg (q := 12) (k := 8) (by simp [uLet, formOf_length]) (by omega)
  have f3 := nm_form (uLet ++ (formOf u.pool 8 ++ formOf u.txg 8)) (ptB u.root ++ List.replicate 20 0) u.note (q := 20) (k := 8) (by simp [uLet, formOf_length]) (by omega)
  have f4 := ptAt_enc (ptE_may m3) ho.root (uLet ++ (formOf u.pool 8 ++ (formOf u.txg 8 ++ formOf u.note 8))) (List.replicate 20 0) (q := 28) (by simp [uLet, formOf_length])
  simp only [List.append_assoc] at f1 f2 f3 f4
  rw [← hx] at f1 f2 f3 f4
  have hat : ubAt (pad96 (ubB u)) = u := by simp only [ubAt, f1, f2, f3, f4]
  have hd : (pad96 (ubB u)).drop 76 = List.replicate 20 0 := by rw [pad96, List.drop_left' hl, hl]
  have hE : ubdecE (whole (ubB u)) = 0 := by
    unfold ubdecE
    rw [o2, if_neg (by rw [o1]; decide), if_neg (fun q => q hd), hat, h]
  exact ⟨hE, by rw [ubdec, if_pos hE, o2, hat]⟩
theorem ubdec_flip {u : Ub} {p : Nat} (hp : p < 128) {y : UInt8} (hy : ∀ h : p < (whole (ubB u)).length, y ≠ (whole (ubB u))[p]) : ubdecE ((whole (ubB u)).set p y) = 45 ∧ ubdec ((whole (ubB u)).set p y) = ubZero := by
  have hl := ubB_length u
  have o1 := (open_whole (x := ubB u) (letters := uLet) (by omega) rfl ⟨_, rfl⟩).1
  have hE : ubdecE ((whole (ubB u)).set p y) = 45 := by unfold ubdecE; rw [if_pos (open_flip o1 hp hy)]
  exact ⟨hE, by rw [ubdec, hE]; rfl⟩
/-- What was read is written as the bytes. -/
theorem ubenc_dec {b : List UInt8} (h : ubdecE b = 0) : ubE (ubdec b) = 0 ∧ whole (ubB (ubdec b)) = b := by
  have h0 := h
  unfold ubdecE at h
  split at h
  · cases h
  rename_i c1
  split at h
  · cases h
  rename_i c2
  have c1 : openB b uLet = true := by simpa using c1
  have c2 : (b.take 96).drop 76 = List.replicate 20 0 := by simpa using c2
  have e : ubdec b = ubAt (b.take 96) := by simp [ubdec, h0]
  rw [e]
  refine ⟨h, ?_⟩
  have ho := c1
  simp only [openB, decide_eq_true_eq] at ho
  obtain ⟨o1, o2, -⟩ := ho
  have hlx : (b.take 96).length = 96 := by rw [List.length_take]; omega
  have hB : ubB (ubAt (b.take 96)) = b.take 76 := by
    have f (j k : Nat) (hj : j + k ≤ 96) := form_cut (b.take 96) (q := j) (k := k) (by omega)
    have g (j k m : Nat) : ((b.take 96).drop j).take (k + m) = ((b.take 96).drop j).take k ++ ((b.take 96).drop (j + k)).take m := by rw [List.take_add, List.drop_drop]
    simp only [ubB, ubAt, nm]
    rw [f 4 8 (by omega), f 12 8 (by omega), f 20 8 (by omega), ptB_at _ (by omega), ← o2]
    have g0 := g 0 4 72
    have g1 := g 4 8 64
    have g2 := g 12 8 56
    have g3 := g 20 8 48
    simp only [Nat.zero_add, Nat.reduceAdd, List.drop_zero] at g0 g1 g2 g3
    rw [show b.take 4 = (b.take 96).take 4 by rw [List.take_take]; rfl, ← g3, ← g2, ← g1, ← g0, List.take_take]; rfl
  rw [hB]
  exact whole_open c1 (by omega) c2
end Go.Sl
