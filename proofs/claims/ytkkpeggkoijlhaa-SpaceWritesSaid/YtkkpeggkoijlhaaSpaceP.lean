/-
  Space maps, plain: entries, their bytes, what is taken behind them.
-/
import Derived.Test.YtkkpeggkoijlhaaRangeQ
import Derived.Test.YtkkpeggkoijlhaaCodeP
namespace Go.Sl

structure Sc where
  free : Bool
  x : Sp
deriving DecidableEq
def Sc.lay (e : Sc) : List Value := [.bool e.free, .int .i64 e.x.at_, .int .i64 e.x.many]
abbrev Sc.agg (e : Sc) : Value := .agg #[.bool e.free, .int .i64 e.x.at_, .int .i64 e.x.many]
theorem Sc.lay_len (e : Sc) : e.lay.length = 3 := rfl
theorem Sc.lay_one (e : Sc) : ∀ u ∈ e.lay, u.oneCell' = true := fun u hu => by
  simp only [Sc.lay, List.mem_cons, List.not_mem_nil, or_false] at hu
  rcases hu with rfl | rfl | rfl <;> rfl

def mayL (l : List Sc) : Bool := l.all fun e => e.x.may
def checkE (l : List Sc) : Int := if 4096 < l.length then 2 else if mayL l then 0 else 100
theorem checkE_ok {l : List Sc} : checkE l = 0 ↔ l.length ≤ 4096 ∧ mayL l = true := by
  unfold checkE; split
  · constructor
    · intro h; cases h
    · rintro ⟨h, _⟩; omega
  · split
    · rename_i h1 h2; exact ⟨fun _ => ⟨by omega, h2⟩, fun _ => rfl⟩
    · rename_i h1 h2; exact ⟨fun h => (by cases h), fun h => absurd h.2 h2⟩
theorem mayL_mem {l : List Sc} (h : mayL l = true) {e : Sc} (he : e ∈ l) : e.x.may = true := by
  unfold mayL at h
  exact List.all_eq_true.1 h e he
theorem add_first (x : Sp) : addE [] x = if x.may then 0 else 90 := by
  cases h : x.may
  · simp [addE, h]
  · have h1 : meetsL [] x = false := by simp [meetsL, sumc]
    simp [addE, h, h1, withL]

/-! ### Bytes -/
def oneB (e : Sc) : List UInt8 := formOf (if e.free then 1 else 0) 1 ++ formOf e.x.at_.toNat 6 ++ formOf e.x.many.toNat 6
theorem oneB_length (e : Sc) : (oneB e).length = 13 := by simp [oneB, formOf_length]
def encB (n : Nat) (l : List Sc) : List UInt8 := formOf n 2 ++ l.flatMap oneB
theorem flat_oneB (l : List Sc) : (l.flatMap oneB).length = 13 * l.length := by
  induction l with
  | nil => rfl
  | cons e r ih => rw [List.flatMap_cons, List.length_append, oneB_length, ih, List.length_cons]; omega
theorem encB_length (n : Nat) (l : List Sc) : (encB n l).length = 2 + 13 * l.length := by rw [encB, List.length_append, formOf_length, flat_oneB]
/-- A number that fits is laid down. -/
theorem num_fits {s : Wr} {n : Nat} {k : Nat} (he : s.e = 0) (h1 : 1 ≤ k) (h8 : k ≤ 8) (hn : n < 256 ^ k) (hr : s.bs.length + k ≤ s.room) : s.num n k = { s with bs := s.bs ++ formOf n k } := by
  have hb : ¬ ((k : Int) < 1 ∨ 8 < (k : Int)) := by omega
  have hg : ¬ n ≥ 256 ^ k := by omega
  have hf : s.fits (formOf n k) = true := by simp only [Wr.fits, formOf_length, decide_eq_true_eq]; omega
  simp [Wr.num, Wr.lay, numE, he, hb, Wr.putE, Wr.putS, hf, Nat.not_le.2 hn]

/-- What such bytes are read as. -/
def oneD (c : List UInt8) : Nat × Sc := (numOf (c.take 1), ⟨numOf (c.take 1) == 1, ⟨(numOf ((c.drop 1).take 6) : Int), (numOf ((c.drop 7).take 6) : Int)⟩⟩)
def restD : Nat → List UInt8 → Option (List Sc)
  | 0, [] => some []
  | 0, _ :: _ => none
  | n + 1, b => if b.length < 13 ∨ 1 < (oneD b).1 then none else (restD n (b.drop 13)).map ((oneD b).2 :: ·)
def decB (b : List UInt8) : Option (List Sc) :=
  if b.length < 2 then none else match restD (numOf (b.take 2)) (b.drop 2) with
    | none => none
    | some l => if checkE l = 0 then some l else none

/-! ### Replaying -/
def stepE (s : List Sp) (e : Sc) : Int := if e.free then remE s e.x else addE s e.x
def stepS (s : List Sp) (e : Sc) : List Sp := if e.free then remS s e.x else addS s e.x
def replay : List Sp → List Sc → Option (List Sp)
  | s, [] => some s
  | s, e :: r => if stepE s e = 0 then replay (stepS s e) r else none
def repE (l : List Sc) : Int := if checkE l ≠ 0 then checkE l else if (replay [] l).isSome then 0 else 101
def condL (s : List Sp) : List Sc := s.map fun x => ⟨false, x⟩

theorem stepS_gd {s : List Sp} (h : Okl s) (e : Sc) : Okl (stepS s e) := by
  unfold stepS; split
  · exact remS_gd h _
  · exact addS_gd h _
theorem stepS_len {s : List Sp} (h : Okl s) (e : Sc) : (stepS s e).length ≤ s.length + 1 := by
  unfold stepS; split
  · by_cases c : remE s e.x = 0
    · rw [remS_ok c]
      obtain ⟨h1, _⟩ := remE_ok c
      exact (remL_spec h.gd (has_may h1) (has_in h.gd h1)).len
    · simp [remS, c]
  · by_cases c : addE s e.x = 0
    · rw [addS_ok c]
      obtain ⟨h1, h2, _⟩ := addE_ok c
      exact (withL_spec h.gd h1 (apart_of_meets h.gd h1 h2)).len
    · rw [addS_no c]; omega
theorem replay_gd {l : List Sc} : ∀ {s t : List Sp}, Okl s → replay s l = some t → Okl t ∧ t.length ≤ s.length + l.length := by
  induction l with
  | nil => intro s t h e; cases e; exact ⟨h, by simp⟩
  | cons x r ih =>
    intro s t h e
    unfold replay at e
    split at e
    · obtain ⟨h1, h2⟩ := ih (stepS_gd h x) e
      have := stepS_len h x
      exact ⟨h1, by simp only [List.length_cons]; omega⟩
    · cases e
theorem replay_append (s : List Sp) (l m : List Sc) : replay s (l ++ m) = (replay s l).bind fun t => replay t m := by
  induction l generalizing s with
  | nil => rfl
  | cons x r ih =>
    rw [List.cons_append, replay, replay]
    split
    · exact ih _
    · rfl
/-- What was condensed says the same. -/
theorem replay_cond : ∀ (p q : List Sp), Gd (p ++ q) → (p ++ q).length ≤ 4096 → replay p (condL q) = some (p ++ q)
  | p, [], _, _ => by simp [condL, replay]
  | p, y :: r, h, hl => by
    have hpw := List.pairwise_append.1 h.gap
    have hy : y.may = true := h.may y (by simp)
    have hg : Gd p := ⟨fun x hx => h.may x (List.mem_append_left _ hx), hpw.1⟩
    have hlt : ∀ z ∈ p, z.fin < y.at_ := fun z hz => hpw.2.2 z hz y (List.mem_cons_self ..)
    have hw : withL p y false = p ++ [y] := by
      have := withL_past (p := p) (l := []) hy (fun z hz => ⟨hg.may z hz, hlt z hz⟩)
      rw [List.append_nil] at this
      rw [this]; rfl
    have hlen : (p ++ [y]).length ≤ 4096 := by simp only [List.length_append, List.length_cons, List.length_nil] at *; omega
    have hc := add_fits hg hy (fun z hz => .inl (Int.le_of_lt (hlt z hz))) (by rw [hw]; exact hlen)
    rw [condL, List.map_cons, replay]
    simp only [stepE, Bool.false_eq_true, if_false, hc, if_true, stepS, addS_ok hc, hw]
    have := replay_cond (p ++ [y]) r (by rw [List.append_assoc]; exact h) (by rw [List.append_assoc]; exact hl)
    rw [condL] at this
    rw [this, List.append_assoc]; rfl
theorem condL_length (s : List Sp) : (condL s).length = s.length := by simp [condL]
theorem condL_check {s : List Sp} (h : Okl s) : checkE (condL s) = 0 := by
  rw [checkE_ok]
  refine ⟨by rw [condL_length]; exact h.len, ?_⟩
  unfold mayL condL
  rw [List.all_eq_true]
  intro e he
  obtain ⟨x, hx, rfl⟩ := List.mem_map.1 he
  exact h.may x hx
theorem repE_ok {l : List Sc} (h : repE l = 0) : checkE l = 0 ∧ ∃ s, replay [] l = some s ∧ Okl s ∧ s.length ≤ l.length := by
  unfold repE at h
  split at h
  · rename_i c; exact absurd h c
  · rename_i c
    split at h
    · rename_i d
      obtain ⟨s, hs⟩ := Option.isSome_iff_exists.1 d
      obtain ⟨h1, h2⟩ := replay_gd (gd_nil.okl (by simp)) hs
      exact ⟨by simpa using c, s, hs, h1, by simpa using h2⟩
    · cases h
theorem repE_of {l : List Sc} (h : checkE l = 0) {s : List Sp} (hs : replay [] l = some s) : repE l = 0 := by simp [repE, h, hs]
theorem repE_cond {s : List Sp} (h : Okl s) : repE (condL s) = 0 ∧ replay [] (condL s) = some s := by
  have := replay_cond [] s (by simpa using h.gd) (by simpa using h.len)
  exact ⟨repE_of (condL_check h) this, this⟩

/-! ### There and back -/
theorem numOf_small {n k : Nat} (h : n < 256 ^ k) : numOf (formOf n k) = n := by rw [numOf_form, Nat.mod_eq_of_lt h]
theorem form_num : ∀ (b : List UInt8), formOf (numOf b) b.length = b := by
  intro b
  have key : ∀ (k n m : Nat), n % 256 ^ k = m % 256 ^ k → formOf n k = formOf m k := by
    intro k
    induction k with
    | zero => intros; rfl
    | succ k ih =>
      intro n m h
      rw [formOf, formOf, ih n m (by
        have := congrArg (· % 256 ^ k) h
        simp only [Nat.pow_succ] at this
        rwa [Nat.mod_mul_right_mod, Nat.mod_mul_right_mod] at this)]
      congr 2
      have h2 : n / 256 ^ k % 256 = m / 256 ^ k % 256 := by
        have h1 : n % (256 ^ k * 256) = m % (256 ^ k * 256) := by rw [← Nat.pow_succ]; exact h
        rw [Nat.mod_mul, Nat.mod_mul] at h1
        have h0 : n % 256 ^ k = m % 256 ^ k := by
          have := congrArg (· % 256 ^ k) h
          simp only [Nat.pow_succ] at this
          rwa [Nat.mod_mul_right_mod, Nat.mod_mul_right_mod] at this
        rw [h0] at h1
        have hp : 0 < 256 ^ k := Nat.pow_pos (by omega)
        exact Nat.eq_of_mul_eq_mul_left hp (by omega)
      rw [Nat.pow_mul]
      apply UInt8.toNat_inj.1
      simpa using h2
  have h2 : ∀ (xs : List UInt8), formOf (numOf xs) xs.length = xs := by
    intro xs
    generalize hk : xs.length = k
    induction k generalizing xs with
    | zero => simp [List.length_eq_zero_iff.1 hk, formOf]
    | succ k ih =>
      rw [formOf]
      have e : xs = xs.take k ++ [xs[k]] := by
        have := List.take_append_getElem (l := xs) (i := k) (by omega)
        rw [this, List.take_of_length_le (by omega)]
      have hlt : (xs.take k).length = k := by rw [List.length_take]; omega
      have h3 := ih (xs.take k) hlt
      have hn : numOf xs = numOf (xs.take k) + 256 ^ k * xs[k].toNat := by
        conv => lhs; rw [e]
        rw [numOf_append, hlt]; simp [numOf]
      have hlt2 := numOf_lt (xs.take k)
      rw [hlt] at hlt2
      have h4 : formOf (numOf xs) k = xs.take k := by
        rw [← h3]
        refine key k _ _ ?_
        rw [hn, Nat.add_mul_mod_self_left]
      rw [h4, hn, Nat.pow_mul, Nat.add_mul_div_left _ _ (Nat.pow_pos (by omega)), Nat.div_eq_of_lt hlt2, Nat.zero_add]
      conv => rhs; rw [e]
      simp
  exact h2 b

theorem pow6 : (256 : Nat) ^ 6 = 281474976710656 := by decide
theorem oneD_enc {e : Sc} (h : e.x.may = true) (r : List UInt8) : oneD (oneB e ++ r) = (if e.free then 1 else 0, e) := by
  have hx := Sp.may_iff.1 h
  have h6 := pow6
  have e1 : (oneB e ++ r).take 1 = formOf (if e.free then 1 else 0) 1 := by
    rw [oneB, List.append_assoc, List.append_assoc]; exact List.take_left' (formOf_length _ _)
  have e2 : ((oneB e ++ r).drop 1).take 6 = formOf e.x.at_.toNat 6 := by
    rw [oneB, List.append_assoc, List.append_assoc, List.drop_left' (formOf_length _ _)]; exact List.take_left' (formOf_length _ _)
  have e3 : ((oneB e ++ r).drop 7).take 6 = formOf e.x.many.toNat 6 := by
    rw [oneB, List.append_assoc, List.drop_left' (by simp [formOf_length])]; exact List.take_left' (formOf_length _ _)
  have n1 : numOf (formOf (if e.free then 1 else 0) 1) = if e.free then 1 else 0 := numOf_small (by split <;> decide)
  have n2 : numOf (formOf e.x.at_.toNat 6) = e.x.at_.toNat := numOf_small (by rw [h6]; omega)
  have n3 : numOf (formOf e.x.many.toNat 6) = e.x.many.toNat := numOf_small (by rw [h6]; omega)
  unfold oneD
  rw [e1, e2, e3, n1, n2, n3, Int.toNat_of_nonneg (by omega), Int.toNat_of_nonneg (by omega)]
  cases e with
  | mk f x => cases f <;> rfl
theorem restD_enc {l : List Sc} (h : mayL l = true) : restD l.length (l.flatMap oneB) = some l := by
  induction l with
  | nil => rfl
  | cons e r ih =>
    have h1 := mayL_mem h (List.mem_cons_self ..)
    have h2 : mayL r = true := by unfold mayL at *; simp only [List.all_cons, Bool.and_eq_true] at h; exact h.2
    rw [List.flatMap_cons, List.length_cons, restD, oneD_enc h1, List.drop_left' (oneB_length e), ih h2, if_neg]
    · rfl
    · rw [List.length_append, oneB_length]
      have : ¬ 1 < (if e.free = true then 1 else 0) := by split <;> omega
      simp only; omega
theorem restD_length : ∀ {n : Nat} {b : List UInt8} {l : List Sc}, restD n b = some l → l.length = n ∧ b.length = 13 * n
  | 0, [], l, h => by cases h; exact ⟨rfl, rfl⟩
  | 0, _ :: _, l, h => by cases h
  | n + 1, b, l, h => by
    unfold restD at h
    split at h
    · cases h
    · rename_i c
      obtain ⟨m, hm, rfl⟩ := Option.map_eq_some_iff.1 h
      obtain ⟨h1, h2⟩ := restD_length hm
      rw [List.length_drop] at h2
      exact ⟨by simp [h1], by omega⟩
theorem oneB_dec {b : List UInt8} (h : 13 ≤ b.length) (h1 : (oneD b).1 ≤ 1) : oneB (oneD b).2 = b.take 13 := by
  have hb : numOf (b.take 1) ≤ 1 := h1
  have f1 : formOf (if (numOf (b.take 1) == 1) = true then 1 else 0) 1 = b.take 1 := by
    have h2 : (if (numOf (b.take 1) == 1) = true then 1 else 0) = numOf (b.take 1) := by
      by_cases c : numOf (b.take 1) = 1
      · rw [if_pos (by simpa using c), c]
      · rw [if_neg (by simpa using c)]; omega
    have h3 := form_num (b.take 1)
    rw [List.length_take, Nat.min_eq_left (by omega)] at h3
    rw [h2, h3]
  have f2 : formOf (numOf ((b.drop 1).take 6)) 6 = (b.drop 1).take 6 := by
    have h3 := form_num ((b.drop 1).take 6)
    rwa [List.length_take, List.length_drop, Nat.min_eq_left (by omega)] at h3
  have f3 : formOf (numOf ((b.drop 7).take 6)) 6 = (b.drop 7).take 6 := by
    have h3 := form_num ((b.drop 7).take 6)
    rwa [List.length_take, List.length_drop, Nat.min_eq_left (by omega)] at h3
  unfold oneB oneD
  simp only [Int.toNat_natCast]
  rw [f1, f2, f3]
  have e1 : b.take 13 = b.take 1 ++ (b.drop 1).take 12 := by rw [show (13 : Nat) = 1 + 12 from rfl, List.take_add]
  have e2 : (b.drop 1).take 12 = (b.drop 1).take 6 ++ (b.drop 7).take 6 := by rw [show (12 : Nat) = 6 + 6 from rfl, List.take_add, List.drop_drop]
  rw [e1, e2, List.append_assoc]
theorem restD_dec : ∀ {n : Nat} {b : List UInt8} {l : List Sc}, restD n b = some l → l.flatMap oneB = b
  | 0, [], l, h => by cases h; rfl
  | 0, _ :: _, l, h => by cases h
  | n + 1, b, l, h => by
    unfold restD at h
    split at h
    · cases h
    · rename_i c
      obtain ⟨m, hm, rfl⟩ := Option.map_eq_some_iff.1 h
      rw [List.flatMap_cons, restD_dec hm, oneB_dec (by omega) (by omega), List.take_append_drop]
theorem dec_enc {l : List Sc} (h : checkE l = 0) : decB (encB l.length l) = some l := by
  obtain ⟨h1, h2⟩ := checkE_ok.1 h
  unfold decB
  have e1 : (encB l.length l).take 2 = formOf l.length 2 := List.take_left' (formOf_length _ _)
  have e2 : (encB l.length l).drop 2 = l.flatMap oneB := List.drop_left' (formOf_length _ _)
  rw [if_neg (by rw [encB_length]; omega), e1, e2, numOf_small (by have : (256 : Nat) ^ 2 = 65536 := by decide
                                                                   omega), restD_enc h2]
  simp [h]
theorem enc_dec {b : List UInt8} {l : List Sc} (h : decB b = some l) : checkE l = 0 ∧ encB l.length l = b := by
  unfold decB at h
  split at h
  · cases h
  rename_i c
  split at h
  · cases h
  rename_i m hm
  split at h
  · rename_i d
    cases h
    refine ⟨d, ?_⟩
    have h3 := form_num (b.take 2)
    rw [List.length_take, Nat.min_eq_left (by omega)] at h3
    rw [encB, restD_dec hm, (restD_length hm).1, h3, List.take_append_drop]
  · cases h
theorem decB_long {b : List UInt8} {l : List Sc} (h : decB b = some l) : b.length = 2 + 13 * l.length := by
  obtain ⟨_, h2⟩ := enc_dec h
  rw [← h2, encB_length]

theorem mayL_take_succ {l : List Sc} {i : Nat} (hi : i < l.length) (h : mayL (l.take i) = true) (h1 : l[i].x.may = true) : mayL (l.take (i + 1)) = true := by
  rw [take_succ_at l hi]; unfold mayL at *; rw [List.all_append, h]; simp only [List.all_cons, List.all_nil, h1]; rfl
theorem checkE_bad {l : List Sc} {i : Nat} (hi : i < l.length) (h4 : l.length ≤ 4096) (h1 : l[i].x.may = false) : checkE l = 100 := by
  have : mayL l = false := by
    cases h : mayL l with
    | false => rfl
    | true => have := mayL_mem h (List.getElem_mem hi); rw [h1] at this; cases this
  simp [checkE, this, show ¬ 4096 < l.length by omega]
theorem rnum_at (b : List UInt8) {q k : Nat} (h1 : 1 ≤ k) (h8 : k ≤ 8) (hl : q + k ≤ b.length) : (Rdr.mk b q 0).num k = (numOf ((b.drop q).take k), ⟨b, q + k, 0⟩) := by
  have hb : ¬ ((k : Int) < 1 ∨ 8 < (k : Int)) := by omega
  simp [Rdr.num, hb, Rdr.cut, show ¬ b.length < q + k by omega]
theorem rnum_short (b : List UInt8) {q k : Nat} (h1 : 1 ≤ k) (h8 : k ≤ 8) (hl : b.length < q + k) : (Rdr.mk b q 0).num k = (0, ⟨b, q, 10⟩) := by
  have hb : ¬ ((k : Int) < 1 ∨ 8 < (k : Int)) := by omega
  simp [Rdr.num, hb, hl]
theorem rnum_err {s : Rdr} (h : s.e ≠ 0) (k : Int) : s.num k = (0, s) := by simp [Rdr.num, h]
theorem numOf_take6 (b : List UInt8) (q : Nat) : numOf ((b.drop q).take 6) < 281474976710656 := by
  have h := numOf_lt ((b.drop q).take 6)
  have h2 : (256 : Nat) ^ ((b.drop q).take 6).length ≤ 256 ^ 6 := Nat.pow_le_pow_right (by omega) (by rw [List.length_take]; omega)
  rw [pow6] at h2
  omega
theorem numOf_take1 (b : List UInt8) (q : Nat) : numOf ((b.drop q).take 1) < 256 := by
  have h := numOf_lt ((b.drop q).take 1)
  have h2 : (256 : Nat) ^ ((b.drop q).take 1).length ≤ 256 ^ 1 := Nat.pow_le_pow_right (by omega) (by rw [List.length_take]; omega)
  omega
theorem numOf_take2 (b : List UInt8) : numOf (b.take 2) < 65536 := by
  have h := numOf_lt (b.take 2)
  have h2 : (256 : Nat) ^ (b.take 2).length ≤ 256 ^ 2 := Nat.pow_le_pow_right (by omega) (by rw [List.length_take]; omega)
  have : (256 : Nat) ^ 2 = 65536 := by decide
  omega
end Go.Sl
