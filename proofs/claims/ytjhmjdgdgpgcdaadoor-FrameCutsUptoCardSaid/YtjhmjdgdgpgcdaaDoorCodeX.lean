/-
  Writers and readers where all goes well: numbers, bytes and noughts that fit.
-/
import Derived.Test.YtjhmjdgdgpgcdaaDoorCodeR
import Derived.Test.YtjhmjdgdgpgcdaaDoorMore4
namespace Go.Sl
/-- A number that fits is laid down. -/
theorem num_fits {s : Wr} {n : Nat} {k : Nat} (he : s.e = 0) (h1 : 1 ≤ k) (h8 : k ≤ 8) (hn : n < 256 ^ k) (hr : s.bs.length + k ≤ s.room) : s.num n k = { s with bs := s.bs ++ formOf n k } := by
  have hb : ¬ ((k : Int) < 1 ∨ 8 < (k : Int)) := by omega
  have hg : ¬ n ≥ 256 ^ k := by omega
  have hf : s.fits (formOf n k) = true := by simp only [Wr.fits, formOf_length, decide_eq_true_eq]; omega
  simp [Wr.num, Wr.lay, numE, he, hb, Wr.putE, Wr.putS, hf, Nat.not_le.2 hn]

theorem numOf_small {n k : Nat} (h : n < 256 ^ k) : numOf (formOf n k) = n := by rw [numOf_form, Nat.mod_eq_of_lt h]
theorem form_num : ∀ (b : List UInt8), formOf (numOf b) b.length = b := by
  intro b
  have key : ∀ (k n m : Nat), n % 256 ^ k = m % 256 ^ k → formOf n k = formOf m k := by
    intro k
    induction k with
    | zero => intros; rfl
    | succ k ih =>
      intro n m h
      rw [formOf, formOf, ih n m (by
        have := congrArg (· % 256 ^ k) h
        simp only [Nat.pow_succ] at this
        rwa [Nat.mod_mul_right_mod, Nat.mod_mul_right_mod] at this)]
      congr 2
      have h2 : n / 256 ^ k % 256 = m / 256 ^ k % 256 := by
        have h1 : n % (256 ^ k * 256) = m % (256 ^ k * 256) := by rw [← Nat.pow_succ]; exact h
        rw [Nat.mod_mul, Nat.mod_mul] at h1
        have h0 : n % 256 ^ k = m % 256 ^ k := by
          have := congrArg (· % 256 ^ k) h
          simp only [Nat.pow_succ] at this
          rwa [Nat.mod_mul_right_mod, Nat.mod_mul_right_mod] at this
        rw [h0] at h1
        have hp : 0 < 256 ^ k := Nat.pow_pos (by omega)
        exact Nat.eq_of_mul_eq_mul_left hp (by omega)
      rw [Nat.pow_mul]
      apply UInt8.toNat_inj.1
      simpa using h2
  have h2 : ∀ (xs : List UInt8), formOf (numOf xs) xs.length = xs := by
    intro xs
    generalize hk : xs.length = k
    induction k generalizing xs with
    | zero => simp [List.length_eq_zero_iff.1 hk, formOf]
    | succ k ih =>
      rw [formOf]
      have e : xs = xs.take k ++ [xs[k]] := by
        have := List.take_append_getElem (l := xs) (i := k) (by omega)
        rw [this, List.take_of_length_le (by omega)]
      have hlt : (xs.take k).length = k := by rw [List.length_take]; omega
      have h3 := ih (xs.take k) hlt
      have hn : numOf xs = numOf (xs.take k) + 256 ^ k * xs[k].toNat := by
        conv => lhs; rw [e]
        rw [numOf_append, hlt]; simp [numOf]
      have hlt2 := numOf_lt (xs.take k)
      rw [hlt] at hlt2
      have h4 : formOf (numOf xs) k = xs.take k := by
        rw [← h3]
        refine key k _ _ ?_
        rw [hn, Nat.add_mul_mod_self_left]
      rw [h4, hn, Nat.pow_mul, Nat.add_mul_div_left _ _ (Nat.pow_pos (by omega)), Nat.div_eq_of_lt hlt2, Nat.zero_add]
      conv => rhs; rw [e]
      simp
  exact h2 b
theorem rnum_at (b : List UInt8) {q k : Nat} (h1 : 1 ≤ k) (h8 : k ≤ 8) (hl : q + k ≤ b.length) : (Rdr.mk b q 0).num k = (numOf ((b.drop q).take k), ⟨b, q + k, 0⟩) := by
  have hb : ¬ ((k : Int) < 1 ∨ 8 < (k : Int)) := by omega
  simp [Rdr.num, hb, Rdr.cut, show ¬ b.length < q + k by omega]
theorem rnum_short (b : List UInt8) {q k : Nat} (h1 : 1 ≤ k) (h8 : k ≤ 8) (hl : b.length < q + k) : (Rdr.mk b q 0).num k = (0, ⟨b, q, 10⟩) := by
  have hb : ¬ ((k : Int) < 1 ∨ 8 < (k : Int)) := by omega
  simp [Rdr.num, hb, hl]
theorem rnum_err {s : Rdr} (h : s.e ≠ 0) (k : Int) : s.num k = (0, s) := by simp [Rdr.num, h]
theorem buf_bytes (g : Nat) (b : List UInt8) (T : TypeId) (h : b.length ≤ 4611686018427387904) : Buf [(g, cel (byt b) T)] T 1 (.slice (some ⟨g, 0, none⟩) b.length b.length) b.length (byt b) := by
  have := buf_mk (T := T) (g := g) (c := b.length) (s := 1) (m := b.length) (xs := byt b) (r := []) (by simp [byt_length]) (byt_one b) (Nat.le_refl _) (by simp only [maxLen]; omega) (by simp [byt_length])
  rwa [List.append_nil] at this

theorem numOf_cut (b : List UInt8) (q k : Nat) : numOf ((b.drop q).take k) < 256 ^ k :=
  Nat.lt_of_lt_of_le (numOf_lt _) (Nat.pow_le_pow_right (by omega) (by rw [List.length_take]; omega))
theorem form_cut (b : List UInt8) {q k : Nat} (h : q + k ≤ b.length) : formOf (numOf ((b.drop q).take k)) k = (b.drop q).take k := by
  have := form_num ((b.drop q).take k)
  rwa [List.length_take, List.length_drop, Nat.min_eq_left (by omega)] at this
theorem bytes_fits {s : Wr} {b : List UInt8} (he : s.e = 0) (hr : s.bs.length + b.length ≤ s.room) : s.bytes b = { s with bs := s.bs ++ b } := by
  have hf : s.fits b = true := by simp only [Wr.fits, decide_eq_true_eq]; omega
  simp [Wr.bytes, Wr.lay, he, Wr.putE, Wr.putS, hf]
theorem pad_fits {s : Wr} {to : Nat} (he : s.e = 0) (h1 : s.bs.length ≤ to) (h2 : to ≤ s.room) : s.pad to = { s with bs := s.bs ++ List.replicate (to - s.bs.length) 0 } := by
  have hf : s.fits (List.replicate (to - s.bs.length) 0) = true := by simp only [Wr.fits, List.length_replicate, decide_eq_true_eq]; omega
  have c1 : ¬ ((to : Int) < s.bs.length) := by omega
  have c2 : ¬ (s.room : Int) < to := by omega
  simp [Wr.pad, Wr.lay, padE, he, Wr.putE, Wr.putS, hf, show ¬ to < s.bs.length by omega, show ¬ s.room < to by omega]
theorem rpad_at (b : List UInt8) {q to : Nat} (h1 : q ≤ to) (h2 : to ≤ b.length) : (Rdr.mk b q 0).pad to = if (b.drop q).take (to - q) = List.replicate (to - q) 0 then ⟨b, to, 0⟩ else ⟨b, q, 14⟩ := by
  simp [Rdr.pad, Rdr.cut, show ¬ ((to : Int) < q) by omega, show ¬ ((b.length : Int) < to) by omega, show ¬ to < q by omega, show ¬ b.length < to by omega]
  congr
theorem rbytes_at (b : List UInt8) {q k : Nat} (hl : q + k ≤ b.length) : (Rdr.mk b q 0).bytes k = ((b.drop q).take k, ⟨b, q + k, 0⟩) := by
  simp [Rdr.bytes, Rdr.cut, show ¬ b.length < q + k by omega]
end Go.Sl
namespace Go.Proofs.YtjhmjdgdgpgcdaaDoor
open Go.Sl
set_option maxRecDepth 10000

theorem num_fit (p room : Nat) (bs : List UInt8) (A : Chunk) (w0 : World) (hA : WrC 114 p ⟨room, bs, 0⟩ A) (n k : Nat) (H : Hp w0 [A]) (hr : room ≤ 140737488355328) (h1 : 1 ≤ k) (h8 : k ≤ 8) (hn : n < 256 ^ k) (hl : bs.length + k ≤ room) :
    Ret Tryd.prog 50 #[ptr p, .int .u64 n, .int .i64 (k : Int)] w0 fun _ w' => ∃ A', WrC 114 p ⟨room, bs ++ formOf n k, 0⟩ A' ∧ Trs w0 w' [A] [A'] := by
  refine (num_ret p _ A w0 hA n k H hr).mono fun v w' ⟨A', h, hT⟩ => ⟨A', ?_, hT⟩
  rw [num_fits rfl h1 h8 hn hl] at h
  exact h

theorem bytes_fit (p room : Nat) (bs : List UInt8) (A D : Chunk) (w0 : World) (hA : WrC 114 p ⟨room, bs, 0⟩ A) (bv : Value) (b : List UInt8) (hD : Rd D 1 bv b.length (byt b)) (H : Hp w0 [A, D]) (hr : room ≤ 140737488355328) (hl : bs.length + b.length ≤ room) :
    Ret Tryd.prog 82 #[ptr p, bv] w0 fun _ w' => ∃ A', WrC 114 p ⟨room, bs ++ b, 0⟩ A' ∧ Trs w0 w' [A, D] [A', D] := by
  refine (bytes_ret p _ A D w0 hA bv b hD H hr).mono fun v w' ⟨A', h, hT⟩ => ⟨A', ?_, hT⟩
  rw [bytes_fits rfl hl] at h
  exact h
/-- What was laid down without an error. -/
theorem done_fit (p room : Nat) (bs : List UInt8) (A : Chunk) (w0 : World) (hA : WrC 114 p ⟨room, bs, 0⟩ A) (H : Hp w0 [A]) (hr : bs.length ≤ 140737488355328) :
    Ret Tryd.prog 51 #[ptr p] w0 fun u w' => ∃ g, u = .tuple #[.slice (some ⟨g, 0, none⟩) bs.length bs.length, .int .i64 0] ∧ Trs w0 w' [A] [[(g, cel (byt bs) 5)], A] := by
  refine (done_ret p _ A w0 hA H hr).mono fun v w' h => ?_
  rcases h with ⟨h, _⟩ | ⟨_, g, h, hT⟩
  · exact absurd rfl h
  · exact ⟨g, h, hT⟩
theorem rnum_fit (p : Nat) (b : List UInt8) (q : Nat) (A : Chunk) (w0 : World) (hA : RdC 100 p ⟨b, q, 0⟩ A) (H : Hp w0 [A]) (k : Nat) (h1 : 1 ≤ k) (h8 : k ≤ 8) (hl : q + k ≤ b.length) :
    Ret Tryd.prog 33 #[ptr p, .int .i64 k] w0 fun u w' => ∃ A', u = .int .u64 (numOf ((b.drop q).take k)) ∧ RdC 100 p ⟨b, q + k, 0⟩ A' ∧ Trs w0 w' [A] [A'] := by
  refine (rnum_ret p _ A w0 hA H k).mono fun v w' ⟨A', h, h2, hT⟩ => ?_
  rw [rnum_at b h1 h8 hl] at h h2
  exact ⟨A', h, h2, hT⟩
theorem rbytes_fit (p : Nat) (b : List UInt8) (q : Nat) (A : Chunk) (w0 : World) (hA : RdC 100 p ⟨b, q, 0⟩ A) (H : Hp w0 [A]) (k : Nat) (hk : k ≤ 9223372036854775807) (hl : q + k ≤ b.length) :
    Ret Tryd.prog 66 #[ptr p, .int .i64 k] w0 fun u w' => ∃ A' C, RdC 100 p ⟨b, q + k, 0⟩ A' ∧ Trs w0 w' [A] [A', C] ∧ Buf C 5 1 u k (byt ((b.drop q).take k)) := by
  refine (rbytes_ret p _ A w0 hA H k (by omega)).mono fun v w' ⟨A', C, h, hT, hC⟩ => ?_
  rw [rbytes_at b hl] at h hC
  have hlen : ((b.drop q).take k).length = k := by rw [List.length_take, List.length_drop]; omega
  rw [hlen] at hC
  exact ⟨A', C, h, hT, hC⟩
end Go.Proofs.YtjhmjdgdgpgcdaaDoor
