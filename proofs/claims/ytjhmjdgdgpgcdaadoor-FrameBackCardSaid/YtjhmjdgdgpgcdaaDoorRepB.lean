/-
  What is read is laid down as it was, plain; replies.
-/
import Derived.Test.YtjhmjdgdgpgcdaaDoorRepT
namespace Go.Sl
/-! ### Replies: what was laid down is read as it was -/
theorem At.texts {pre post : List UInt8} {l : List (List UInt8)} (h : ∀ t ∈ l, t.length ≤ 240) : ∀ n, n ≤ l.length → sT (At pre (l.flatMap txtB ++ post)) n = At (pre ++ (l.take n).flatMap txtB) ((l.drop n).flatMap txtB ++ post)
  | 0, _ => by simp [sT]
  | n + 1, hn => by
    have h0 := At.texts (pre := pre) (post := post) h n (by omega)
    have hl : n < l.length := by omega
    have ht := h _ (List.getElem_mem hl)
    show ((sT (At pre (l.flatMap txtB ++ post)) n).text 240).2 = _
    rw [h0, List.drop_eq_getElem_cons hl, List.flatMap_cons, List.append_assoc]
    have e : ∀ pre post, (At pre (txtB l[n] ++ post)).text 240 = (l[n], At (pre ++ txtB l[n]) post) := fun pre post => @At.text pre l[n] post 240 ht (by omega)
    rw [e, flat_take_succ txtB l hl, List.append_assoc]
theorem At.textsL {pre post : List UInt8} {l : List (List UInt8)} (h : ∀ t ∈ l, t.length ≤ 240) : tL (At pre (l.flatMap txtB ++ post)) l.length = l := by
  apply List.ext_getElem
  · rw [tL_length]
  · intro n h1 h2
    have ht := h _ (List.getElem_mem h2)
    have e : ∀ pre post, (At pre (txtB l[n] ++ post)).text 240 = (l[n], At (pre ++ txtB l[n]) post) := fun pre post => @At.text pre l[n] post 240 ht (by omega)
    simp only [tL, List.getElem_map, List.getElem_range, tT]
    rw [At.texts h n (by omega), List.drop_eq_getElem_cons h2, List.flatMap_cons, List.append_assoc, e]
theorem rpP_back {r : Rp} (h : r.may) {f : Rdr → List UInt8 × Rdr} (hf : ∀ pre, f (At pre (formOf r.data.length 2 ++ r.data)) = (r.data, At (pre ++ (formOf r.data.length 2 ++ r.data)) [])) (pre : List UInt8) :
    rpP f (At pre (rpB r)) = (r, At (pre ++ rpB r) []) := by
  obtain ⟨m1, m2, m3, m4, m5, m6, m7, m8, m9, m10, m11, m12⟩ := h
  have e1 := p1
  have e2 := p2
  have e4 := p4
  have e6 := p6
  obtain ⟨ses, id, err, num, text, list, data⟩ := r
  simp only at *
  obtain ⟨sn, rfl⟩ : ∃ n : Nat, ses = n := ⟨ses.toNat, by omega⟩
  obtain ⟨idn, rfl⟩ : ∃ n : Nat, id = n := ⟨id.toNat, by omega⟩
  obtain ⟨vn, rfl⟩ : ∃ n : Nat, err = n := ⟨err.toNat, by omega⟩
  obtain ⟨an, rfl⟩ : ∃ n : Nat, num = n := ⟨num.toNat, by omega⟩
  have hB : rpB ⟨sn, idn, vn, an, text, list, data⟩ = formOf sn 1 ++ (formOf idn 4 ++ (formOf vn 2 ++ (formOf an 6 ++ (txtB text ++ (formOf list.length 2 ++ (list.flatMap txtB ++ (formOf data.length 2 ++ data))))))) := by
    simp [rpB]
  have a1 : ∀ pre post, (At pre (formOf sn 1 ++ post)).num 1 = (sn, At (pre ++ formOf sn 1) post) := fun pre post => @At.num pre post sn 1 (by omega) (by omega) (by omega)
  have a2 : ∀ pre post, (At pre (formOf idn 4 ++ post)).num 4 = (idn, At (pre ++ formOf idn 4) post) := fun pre post => @At.num pre post idn 4 (by omega) (by omega) (by omega)
  have a3 : ∀ pre post, (At pre (formOf vn 2 ++ post)).num 2 = (vn, At (pre ++ formOf vn 2) post) := fun pre post => @At.num pre post vn 2 (by omega) (by omega) (by omega)
  have a4 : ∀ pre post, (At pre (formOf an 6 ++ post)).num 6 = (an, At (pre ++ formOf an 6) post) := fun pre post => @At.num pre post an 6 (by omega) (by omega) (by omega)
  have a5 : ∀ pre post, (At pre (formOf list.length 2 ++ post)).num 2 = (list.length, At (pre ++ formOf list.length 2) post) := fun pre post => @At.num pre post list.length 2 (by omega) (by omega) (by omega)
  have t1 : ∀ pre post, (At pre (txtB text ++ post)).text 2048 = (text, At (pre ++ txtB text) post) := fun pre post => @At.text pre text post 2048 (by omega) (by omega)
  rw [hB]
  simp only [rpP]
  rw [a1, a2, a3, a4, t1, a5, show min list.length 241 = list.length by omega, At.texts m11 _ (Nat.le_refl _), At.textsL m11, List.take_length, List.drop_length, List.flatMap_nil, List.nil_append, hf]
  simp
theorem rpF_back {r : Rp} (h : r.may) {f : Rdr → List UInt8 × Rdr} (hf : ∀ pre, f (At pre (formOf r.data.length 2 ++ r.data)) = (r.data, At (pre ++ (formOf r.data.length 2 ++ r.data)) [])) : rpF f (rpO r) = (r, 0) := by
  have hs := rpB_small h
  have h1 := @opE_frm (rpB r) 2 (by omega) (by omega)
  rw [if_neg (by omega), show UInt8.ofNat 2 = (2 : UInt8) from rfl] at h1
  have hP := rpP_back h hf [2]
  rw [show At [2] (rpB r) = ⟨2 :: rpB r, 1, 0⟩ from rfl] at hP
  rw [rpO_yes h]
  unfold rpF
  rw [opX_frm, h1, hP, if_neg (by omega), if_pos ⟨At.done _, h⟩]
theorem rpF_backP {r : Rp} (h : r.may) : rpF (dataP 4096) (rpO r) = (r, 0) :=
  have hd : r.data.length ≤ 4096 := h.2.2.2.2.2.2.2.2.2.2.2
  rpF_back h fun pre => dataP_at (by omega) hd
/-! ### What is read is laid down as it was -/
/-- What is left to read. -/
def Rdr.rem (s : Rdr) : List UInt8 := s.bs.drop s.at_
theorem num_rem {s : Rdr} {k : Nat} (h1 : 1 ≤ k) (h8 : k ≤ 8) (h : (s.num k).2.e = 0) : s.e = 0 ∧ s.rem = formOf (s.num k).1 k ++ (s.num k).2.rem := by
  revert h
  unfold Rdr.num
  by_cases he : s.e ≠ 0
  · rw [if_pos he]; exact fun h => absurd h he
  · rw [if_neg he, if_neg (by omega)]
    by_cases h3 : s.bs.length < s.at_ + (k : Int).toNat
    · rw [if_pos h3]; intro h; cases h
    · rw [if_neg h3]; intro _
      refine ⟨by omega, ?_⟩
      have hc := s.cut_length k 0 (by simp at h3; omega)
      have hf := form_num (s.cut k 0)
      rw [hc] at hf
      show s.rem = formOf (numOf (s.cut (k : Int).toNat 0)) k ++ _
      rw [Int.toNat_natCast, hf]
      show s.rem = (s.bs.drop (s.at_ + 0)).take k ++ s.bs.drop (s.at_ + k)
      rw [Nat.add_zero, ← List.drop_drop, List.take_append_drop]; rfl
theorem bytes_rem {s : Rdr} {n : Nat} (h : (s.bytes n).2.e = 0) : s.e = 0 ∧ s.rem = (s.bytes n).1 ++ (s.bytes n).2.rem ∧ (s.bytes n).1.length = n := by
  have hlen := bytes_len s n h
  refine ⟨?_, ?_, hlen⟩
  · revert h; unfold Rdr.bytes
    by_cases he : s.e ≠ 0
    · rw [if_pos he]; exact fun h => absurd h he
    · intro _; omega
  · revert h; unfold Rdr.bytes
    by_cases he : s.e ≠ 0
    · rw [if_pos he]; exact fun h => absurd h he
    · rw [if_neg he, if_neg (by omega)]
      by_cases h3 : s.bs.length < s.at_ + (n : Int).toNat
      · rw [if_pos h3]; intro h; cases h
      · rw [if_neg h3]; intro _
        show s.rem = (s.bs.drop (s.at_ + 0)).take n ++ s.bs.drop (s.at_ + n)
        rw [Nat.add_zero, ← List.drop_drop, List.take_append_drop]; rfl
theorem text_rem {s : Rdr} {most : Nat} (h : (s.text most).2.e = 0) : s.e = 0 ∧ s.rem = txtB (s.text most).1 ++ (s.text most).2.rem := by
  revert h
  unfold Rdr.text
  by_cases he : s.e ≠ 0
  · rw [if_pos he]; exact fun h => absurd h he
  · rw [if_neg he]
    by_cases h2 : s.bs.length < s.at_ + 2
    · rw [if_pos h2]; intro h; cases h
    · rw [if_neg h2]
      obtain ⟨z, hz⟩ : ∃ z, z = numOf (s.cut 2 0) := ⟨_, rfl⟩
      rw [← hz]
      by_cases h3 : (most : Int) < z
      · rw [if_pos h3]; intro h; cases h
      · rw [if_neg h3]
        by_cases h4 : s.bs.length < s.at_ + 2 + z
        · rw [if_pos h4]; intro h; cases h
        · rw [if_neg h4]; intro _
          refine ⟨by omega, ?_⟩
          have hc := s.cut_length z 2 (by omega)
          have hc2 := s.cut_length 2 0 (by omega)
          have hf := form_num (s.cut 2 0)
          rw [hc2, ← hz] at hf
          show s.rem = txtB (s.cut z 2) ++ s.bs.drop (s.at_ + (2 + z))
          rw [txtB, hc, hf]
          show s.bs.drop s.at_ = (s.bs.drop (s.at_ + 0)).take 2 ++ (s.bs.drop (s.at_ + 2)).take z ++ _
          rw [Nat.add_zero, ← Nat.add_assoc, ← List.drop_drop (i := z) (j := s.at_ + 2), List.append_assoc, List.take_append_drop, ← List.drop_drop, List.take_append_drop]
theorem sT_rem {s : Rdr} : ∀ {n : Nat}, (sT s n).e = 0 → s.e = 0 ∧ s.rem = (tL s n).flatMap txtB ++ (sT s n).rem
  | 0, h => ⟨h, by simp [tL, sT]⟩
  | n + 1, h => by
    obtain ⟨h1, h2⟩ := @text_rem (sT s n) 240 h
    obtain ⟨h3, h4⟩ := sT_rem (n := n) h1
    refine ⟨h3, ?_⟩
    rw [h4, h2, tL_succ, List.flatMap_append, List.append_assoc]
    simp [tT, sT]
theorem done_rem {s : Rdr} (h : s.done = 0) : s.e = 0 ∧ s.rem = [] := by
  have he := done_e h
  refine ⟨he, List.drop_eq_nil_of_le ?_⟩
  unfold Rdr.done at h
  split at h
  · cases h
  · omega
theorem dataD_rem {s : Rdr} (h : (dataD s).2.done = 0) : s.e = 0 ∧ s.rem = formOf (dataD s).1.length 2 ++ (dataD s).1 := by
  obtain ⟨h1, h2⟩ := done_rem h
  obtain ⟨h3, h4, h5⟩ := @bytes_rem (s.num 2).2 (s.num 2).1 h1
  obtain ⟨h6, h7⟩ := @num_rem s 2 (by omega) (by omega) h3
  refine ⟨h6, ?_⟩
  have h5' : (dataD s).1.length = (s.num 2).1 := h5
  rw [h7, h5']
  have h4' : (s.num 2).2.rem = (dataD s).1 ++ (dataD s).2.rem := h4
  rw [show (s.num ((2 : Nat) : Int)) = s.num 2 from rfl, h4', h2, List.append_nil]
theorem rqP_rem {s : Rdr} (h : (rqP dataD s).2.done = 0) : s.rem = rqB (rqP dataD s).1 := by
  obtain ⟨a, ha⟩ : ∃ a, a = s.num 1 := ⟨_, rfl⟩
  obtain ⟨b, hb⟩ : ∃ b, b = a.2.num 4 := ⟨_, rfl⟩
  obtain ⟨c, hc⟩ : ∃ c, c = b.2.num 1 := ⟨_, rfl⟩
  obtain ⟨d, hd⟩ : ∃ d, d = (sT c.2 4).num 6 := ⟨_, rfl⟩
  obtain ⟨e, he⟩ : ∃ e, e = d.2.num 6 := ⟨_, rfl⟩
  obtain ⟨x, hx⟩ : ∃ x, x = dataD e.2 := ⟨_, rfl⟩
  have hP : rqP dataD s = (⟨a.1, b.1, c.1, tT c.2 0, tT c.2 1, tT c.2 2, tT c.2 3, d.1, e.1, x.1⟩, x.2) := by subst hx he hd hc hb ha; rfl
  rw [hP] at h ⊢
  obtain ⟨g1, g2⟩ := @dataD_rem e.2 (by rw [← hx]; exact h)
  obtain ⟨g3, g4⟩ := @num_rem d.2 6 (by omega) (by omega) (by rw [show ((6 : Nat) : Int) = 6 from rfl, ← he]; exact g1)
  obtain ⟨g5, g6⟩ := @num_rem (sT c.2 4) 6 (by omega) (by omega) (by rw [show ((6 : Nat) : Int) = 6 from rfl, ← hd]; exact g3)
  obtain ⟨g7, g8⟩ := @sT_rem c.2 4 g5
  obtain ⟨g9, g10⟩ := @num_rem b.2 1 (by omega) (by omega) (by rw [show ((1 : Nat) : Int) = 1 from rfl, ← hc]; exact g7)
  obtain ⟨g11, g12⟩ := @num_rem a.2 4 (by omega) (by omega) (by rw [show ((4 : Nat) : Int) = 4 from rfl, ← hb]; exact g9)
  obtain ⟨g13, g14⟩ := @num_rem s 1 (by omega) (by omega) (by rw [show ((1 : Nat) : Int) = 1 from rfl, ← ha]; exact g11)
  rw [show ((1 : Nat) : Int) = 1 from rfl, ← ha] at g14
  rw [show ((4 : Nat) : Int) = 4 from rfl, ← hb] at g12
  rw [show ((1 : Nat) : Int) = 1 from rfl, ← hc] at g10
  rw [show ((6 : Nat) : Int) = 6 from rfl, ← hd] at g6
  rw [show ((6 : Nat) : Int) = 6 from rfl, ← he] at g4
  rw [← hx] at g2
  rw [g14, g12, g10, g8, g6, g4, g2]
  simp [rqB, Rq.strs, tL, List.range_succ]
theorem rpP_rem {s : Rdr} (h : (rpP dataD s).2.done = 0) (hm : (rpP dataD s).1.list.length ≤ 240) : s.rem = rpB (rpP dataD s).1 := by
  obtain ⟨a, ha⟩ : ∃ a, a = s.num 1 := ⟨_, rfl⟩
  obtain ⟨b, hb⟩ : ∃ b, b = a.2.num 4 := ⟨_, rfl⟩
  obtain ⟨c, hc⟩ : ∃ c, c = b.2.num 2 := ⟨_, rfl⟩
  obtain ⟨d, hd⟩ : ∃ d, d = c.2.num 6 := ⟨_, rfl⟩
  obtain ⟨t, ht⟩ : ∃ t, t = d.2.text 2048 := ⟨_, rfl⟩
  obtain ⟨n, hn⟩ : ∃ n, n = t.2.num 2 := ⟨_, rfl⟩
  obtain ⟨k, hk⟩ : ∃ k, k = min n.1 241 := ⟨_, rfl⟩
  obtain ⟨x, hx⟩ : ∃ x, x = dataD (sT n.2 k) := ⟨_, rfl⟩
  have hP : rpP dataD s = (⟨a.1, b.1, c.1, d.1, t.1, tL n.2 k, x.1⟩, x.2) := by subst hx hk hn ht hd hc hb ha; rfl
  rw [hP] at h hm ⊢
  have hkl : k ≤ 240 := by simp only [tL_length] at hm; exact hm
  have hkn : n.1 = k := by omega
  obtain ⟨g1, g2⟩ := @dataD_rem (sT n.2 k) (by rw [← hx]; exact h)
  obtain ⟨g3, g4⟩ := @sT_rem n.2 k g1
  obtain ⟨g5, g6⟩ := @num_rem t.2 2 (by omega) (by omega) (by rw [show ((2 : Nat) : Int) = 2 from rfl, ← hn]; exact g3)
  obtain ⟨g7, g8⟩ := @text_rem d.2 2048 (by rw [show ((2048 : Nat) : Int) = 2048 from rfl, ← ht]; exact g5)
  obtain ⟨g9, g10⟩ := @num_rem c.2 6 (by omega) (by omega) (by rw [show ((6 : Nat) : Int) = 6 from rfl, ← hd]; exact g7)
  obtain ⟨g11, g12⟩ := @num_rem b.2 2 (by omega) (by omega) (by rw [show ((2 : Nat) : Int) = 2 from rfl, ← hc]; exact g9)
  obtain ⟨g13, g14⟩ := @num_rem a.2 4 (by omega) (by omega) (by rw [show ((4 : Nat) : Int) = 4 from rfl, ← hb]; exact g11)
  obtain ⟨g15, g16⟩ := @num_rem s 1 (by omega) (by omega) (by rw [show ((1 : Nat) : Int) = 1 from rfl, ← ha]; exact g13)
  rw [show ((1 : Nat) : Int) = 1 from rfl, ← ha] at g16
  rw [show ((4 : Nat) : Int) = 4 from rfl, ← hb] at g14
  rw [show ((2 : Nat) : Int) = 2 from rfl, ← hc] at g12
  rw [show ((6 : Nat) : Int) = 6 from rfl, ← hd] at g10
  rw [show ((2048 : Nat) : Int) = 2048 from rfl, ← ht] at g8
  rw [show ((2 : Nat) : Int) = 2 from rfl, ← hn, hkn] at g6
  rw [← hx] at g2
  rw [g16, g14, g12, g10, g8, g6, g4, g2]
  simp [rpB, tL_length]
/-- A frame that is opened is the frame of its kind and its body. -/
theorem opE_ok {b : List UInt8} {k : Nat} (hk : k < 256) (h : opE b k = 0) : 13 ≤ b.length ∧ b = frm (UInt8.ofNat k :: (opX b).drop 1) := by
  unfold opE at h
  split at h; omega
  rename_i h1
  split at h; omega
  rename_i h2
  split at h; omega
  rename_i h3
  split at h; omega
  rename_i h4
  have h13 : 13 ≤ b.length := by omega
  refine ⟨h13, ?_⟩
  have h5 := (frm_opX h13 (by omega)).2 (by simpa using h3)
  have hox := opX_head h13
  have h6 : nm (opX b) 0 1 = (b[4]'(by omega)).toNat := by rw [hox]; simp [nm, numOf]
  have h7 : UInt8.ofNat k = b[4]'(by omega) := by
    apply UInt8.toNat_inj.1; simp; omega
  conv => lhs; rw [← h5, hox]
  rw [h7, hox]; rfl
theorem rqF_forth {b : List UInt8} (h : (rqF (dataP 2048) b).2 = 0) : (rqF (dataP 2048) b).1.may ∧ rqO (rqF (dataP 2048) b).1 = b := by
  rw [rqF_two] at h ⊢
  unfold rqF at h ⊢
  split
  · rename_i h1; rw [if_pos h1] at h; exact absurd h h1
  · rename_i h1
    rw [if_neg h1] at h
    split
    · rename_i h2
      refine ⟨h2.2, ?_⟩
      obtain ⟨h13, hb⟩ := opE_ok (b := b) (k := 1) (by omega) (by omega)
      have hB := rqP_body h13
      have hr := @rqP_rem ⟨(opX b).drop 1, 0, 0⟩ (by rw [← hB.2]; exact h2.1)
      rw [rqO_yes h2.2, hB.1, ← hr]
      exact hb.symm
    · rename_i h2; rw [if_neg h2] at h; cases h
theorem rpF_forth {b : List UInt8} (h : (rpF (dataP 4096) b).2 = 0) : (rpF (dataP 4096) b).1.may ∧ rpO (rpF (dataP 4096) b).1 = b := by
  rw [rpF_two] at h ⊢
  unfold rpF at h ⊢
  split
  · rename_i h1; rw [if_pos h1] at h; exact absurd h h1
  · rename_i h1
    rw [if_neg h1] at h
    split
    · rename_i h2
      refine ⟨h2.2, ?_⟩
      obtain ⟨h13, hb⟩ := opE_ok (b := b) (k := 2) (by omega) (by omega)
      have hB := rpP_body h13
      have hr := @rpP_rem ⟨(opX b).drop 1, 0, 0⟩ (by rw [← hB.2]; exact h2.1) (by rw [← hB.1]; exact h2.2.2.2.2.2.2.2.2.2.2.1)
      rw [rpO_yes h2.2, hB.1, ← hr]
      exact hb.symm
    · rename_i h2; rw [if_neg h2] at h; cases h
end Go.Sl
