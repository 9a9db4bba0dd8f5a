/-
  What stays behind a crash, plain.
-/
import Derived.Test.YtpppaohhnlgfoaaDiskV
namespace Go.Sl
def putS (l : List UInt8) (w : Wt) : List UInt8 := setS l w.at_ w.b
theorem secB_setS {l b : List UInt8} {i : Nat} (h : 128 * i ≤ l.length) (hb : b.length = 128) : secB (setS l i b) i = b := by
  have h1 : (l.take (128 * i)).length = 128 * i := by rw [List.length_take]; omega
  rw [secB, setS, List.append_assoc, List.drop_left' h1, List.take_left' hb]
theorem secB_setS_ne {l b : List UInt8} {i s : Nat} (h : 128 * i + 128 ≤ l.length) (hb : b.length = 128) (hne : i ≠ s) : secB (setS l i b) s = secB l s := by
  have hlen : (setS l i b).length = l.length := setS_length h hb
  apply List.ext_getElem?
  intro j
  rw [secB, secB, List.getElem?_take, List.getElem?_take]
  split
  · rw [List.getElem?_drop, List.getElem?_drop, setS]
    have h1 : (l.take (128 * i)).length = 128 * i := by rw [List.length_take]; omega
    rcases Nat.lt_or_ge s i with c | c
    · rw [List.append_assoc, List.getElem?_append_left (by omega), List.getElem?_take_of_lt (by omega)]
    · rw [List.getElem?_append_right (by rw [List.length_append, h1, hb]; omega), List.length_append, h1, hb, List.getElem?_drop, show 128 * i + 128 + (128 * s + j - (128 * i + 128)) = 128 * s + j by omega]
  · rfl
theorem upS_no (d : Nat) : ∀ (ws : List Wt) (st : List Bool) (pl : List UInt8), (∀ i, i < ws.length → st[i]? ≠ some true) → upS d ws st pl = pl
  | [], st, pl, _ => rfl
  | w :: ws, st, pl, h => by
    have h0 := h 0 (by simp)
    rw [upS, if_neg (fun q => h0 (by rw [← q.1]; cases st <;> rfl))]
    refine upS_no d ws st.tail pl fun i hi => ?_
    have := h (i + 1) (by simp; omega)
    cases st with
    | nil => simp
    | cons x r => simpa using this
theorem upS_all (d : Nat) : ∀ (ws : List Wt) (st : List Bool) (pl : List UInt8), (∀ i, i < ws.length → st[i]? = some true) → (∀ w ∈ ws, w.d = d) → upS d ws st pl = ws.foldl putS pl
  | [], st, pl, _, _ => rfl
  | w :: ws, st, pl, h, hd => by
    have h0 := h 0 (by simp)
    rw [upS, if_pos ⟨by rw [← h0]; cases st <;> rfl, hd w (List.mem_cons_self ..)⟩, List.foldl_cons]
    refine upS_all d ws st.tail _ (fun i hi => ?_) fun x hx => hd x (List.mem_cons_of_mem _ hx)
    have := h (i + 1) (by simp; omega)
    cases st with
    | nil => simp at this
    | cons x r => simpa using this
/-- Each sector is what it was, or what a write says. -/
theorem upS_sec {d n s : Nat} (hs : 128 * s + 128 ≤ n) : ∀ (ws : List Wt) (st : List Bool) (pl : List UInt8), pl.length = n → (∀ w ∈ ws, 128 * w.at_ + 128 ≤ n) → secB (upS d ws st pl) s = secB pl s ∨ ∃ w ∈ ws, w.at_ = s ∧ secB (upS d ws st pl) s = w.b
  | [], st, pl, _, _ => .inl rfl
  | w :: ws, st, pl, hl, hw => by
    have hwf := hw w (List.mem_cons_self ..)
    rw [upS]
    by_cases hc : st.head? = some true ∧ w.d = d
    · rw [if_pos hc]
      rcases upS_sec hs ws st.tail (setS pl w.at_ w.b) (by rw [setS_length (by omega) w.hb]; exact hl) fun x hx => hw x (List.mem_cons_of_mem _ hx) with h | ⟨x, hx, h1, h2⟩
      · by_cases he : w.at_ = s
        · subst he
          exact .inr ⟨w, List.mem_cons_self .., rfl, by rw [h, secB_setS (by omega) w.hb]⟩
        · exact .inl (by rw [h, secB_setS_ne (by omega) w.hb he])
      · exact .inr ⟨x, List.mem_cons_of_mem _ hx, h1, h2⟩
    · rw [if_neg hc]
      rcases upS_sec hs ws st.tail pl hl fun x hx => hw x (List.mem_cons_of_mem _ hx) with h | ⟨x, hx, h1, h2⟩
      · exact .inl h
      · exact .inr ⟨x, List.mem_cons_of_mem _ hx, h1, h2⟩
/-- What is seen is what is there with all that waits. -/
theorem wrN_seen {d a : Nat} {b base : List UInt8} : ∀ (k i : Nat) (s : Pw) (nw : List UInt8) (ws : List Wt), 128 * (i + k) ≤ b.length → nw = ws.foldl putS base → (wrN d a b k i s nw ws).2.1 = (wrN d a b k i s nw ws).2.2.1.foldl putS base
  | 0, i, s, nw, ws, _, h => h
  | k + 1, i, s, nw, ws, hb, h => by
    rw [wrN]
    split
    · exact h
    · refine wrN_seen k (i + 1) _ _ _ (by omega) ?_
      rw [List.foldl_append, ← h]
      show setS nw (a + i) (secB b i) = setS nw (a + i) (pad (secB b i))
      rw [pad_id (secB_length (by omega))]
theorem wrS_seen {d n : Nat} {at_ : Int} {b base : List UInt8} (s : Pw) (f : Bool) (nw : List UInt8) (ws : List Wt) (h : nw = ws.foldl putS base) : (wrS d n at_ b s f nw ws).2.1 = (wrS d n at_ b s f nw ws).2.2.1.foldl putS base := by
  unfold wrS
  split; exact h
  split; exact h
  split; exact h
  exact wrN_seen _ _ _ _ _ (by omega) h
/-- Whence what waits comes. -/
theorem wrN_src {d a : Nat} {b : List UInt8} : ∀ (k i : Nat) (s : Pw) (nw : List UInt8) (ws : List Wt), ∀ w ∈ (wrN d a b k i s nw ws).2.2.1, w ∈ ws ∨ ∃ j, i ≤ j ∧ j < i + k ∧ w = mkW d (a + j) (secB b j)
  | 0, i, s, nw, ws, w, hw => .inl hw
  | k + 1, i, s, nw, ws, w, hw => by
    rw [wrN] at hw
    split at hw
    · exact .inl hw
    · rcases wrN_src k (i + 1) _ _ _ w hw with h | ⟨j, h1, h2, h3⟩
      · rcases List.mem_append.1 h with h | h
        · exact .inl h
        · exact .inr ⟨i, Nat.le_refl _, by omega, List.mem_singleton.1 h⟩
      · exact .inr ⟨j, by omega, by omega, h3⟩
/-- A write while the power stays: all or nothing. -/
theorem wrS_src {d n : Nat} {at_ : Int} {b : List UInt8} (s : Pw) (hs : s.off = false) (hl : s.left < 0) (nw : List UInt8) (ws : List Wt) :
    (¬ wrMay n at_ b ∧ wrS d n at_ b s false nw ws = (s, nw, ws, 1)) ∨
    (wrMay n at_ b ∧ (wrS d n at_ b s false nw ws).2.2.2 = 0 ∧ (wrS d n at_ b s false nw ws).1 = ⟨s.left, false, s.wr + b.length / 128⟩ ∧
      ∀ w ∈ (wrS d n at_ b s false nw ws).2.2.1, w ∈ ws ∨ ∃ j, j < b.length / 128 ∧ w = mkW d (at_.toNat + j) (secB b j)) := by
  by_cases hm : wrMay n at_ b
  · have he : wrS d n at_ b s false nw ws = wrN d at_.toNat b (b.length / 128) 0 s nw ws := by
      unfold wrS; rw [if_neg (by simp [hs]), if_neg (by simp), if_neg (fun q => q hm)]
    rw [he]
    obtain ⟨h1, h2, h3, h4, h5⟩ := wrN_big (d := d) (a := at_.toNat) (b := b) (b.length / 128) 0 s nw ws (.inl hl)
    refine .inr ⟨hm, h1, ?_, fun w hw => ?_⟩
    · have h5 := h5 hl
      obtain ⟨z, hz⟩ : ∃ z, z = (wrN d at_.toNat b (b.length / 128) 0 s nw ws).1 := ⟨_, rfl⟩
      rw [← hz] at h2 h3 h5 ⊢
      obtain ⟨l, o, r⟩ := z
      simp only at h2 h3 h5
      subst h3 h5
      rw [h2, hs]
    · rcases wrN_src _ _ _ _ _ w hw with h | ⟨j, -, h2, h3⟩
      · exact .inl h
      · exact .inr ⟨j, by omega, h3⟩
  · exact .inl ⟨hm, by unfold wrS; rw [if_neg (by simp [hs]), if_neg (by simp), if_pos hm]⟩
theorem outW_self {d : Nat} {ws : List Wt} (h : ∀ w ∈ ws, w.d = d) : outW d ws = [] := by
  rw [outW, List.filter_eq_nil_iff]
  intro w hw; simp [h w hw]
theorem setS_get (l b : List UInt8) (i j : Nat) (h : 128 * i + 128 ≤ l.length) (hb : b.length = 128) : (setS l i b)[j]? = if 128 * i ≤ j ∧ j < 128 * i + 128 then b[j - 128 * i]? else l[j]? := by
  have h1 : (l.take (128 * i)).length = 128 * i := by rw [List.length_take]; omega
  rw [setS]
  split
  · rename_i c
    rw [List.append_assoc, List.getElem?_append_right (by omega), h1, List.getElem?_append_left (by omega)]
  · rename_i c
    rcases Nat.lt_or_ge j (128 * i) with c1 | c1
    · rw [List.append_assoc, List.getElem?_append_left (by omega), List.getElem?_take_of_lt c1]
    · rw [List.getElem?_append_right (by rw [List.length_append, h1, hb]; omega), List.length_append, h1, hb, List.getElem?_drop, show 128 * i + 128 + (j - (128 * i + 128)) = j by omega]
end Go.Sl
