/-
  What is seen stays right, whatever is done; plain.
-/
import Derived.Test.YtpppaohhnlgfoaaDocV
import Derived.Test.YtpppaohhnlgfoaaRackA
namespace Go.Sl
theorem setS_twice {l b c : List UInt8} {i : Nat} (h : 128 * i + 128 ≤ l.length) (hb : b.length = 128) (hc : c.length = 128) : setS (setS l i b) i c = setS l i c := by
  have hl : (setS l i b).length = l.length := setS_length h hb
  apply List.ext_getElem?
  intro j
  rw [setS_get _ _ _ _ (by omega) hc, setS_get _ _ _ _ h hc, setS_get _ _ _ _ h hb]
  split
  · rfl
  · rfl
theorem setS_comm {l b c : List UInt8} {i k : Nat} (hi : 128 * i + 128 ≤ l.length) (hk : 128 * k + 128 ≤ l.length) (hb : b.length = 128) (hc : c.length = 128) (hne : i ≠ k) : setS (setS l i b) k c = setS (setS l k c) i b := by
  have h1 : (setS l i b).length = l.length := setS_length hi hb
  have h2 : (setS l k c).length = l.length := setS_length hk hc
  apply List.ext_getElem?
  intro j
  rw [setS_get _ _ _ _ (by omega) hc, setS_get _ _ _ _ hi hb, setS_get _ _ _ _ (by omega) hb, setS_get _ _ _ _ hk hc]
  split
  · rw [if_neg (by omega)]
  · rfl
/-- A sector turned. -/
def turnS (a : Nat) (m : List UInt8) (b : List UInt8) : List UInt8 := setS b a (xorB (secB b a) m)
theorem turnS_length {a : Nat} {m b : List UInt8} (h : 128 * a + 128 ≤ b.length) : (turnS a m b).length = b.length := setS_length h (by rw [xorB_length]; exact secB_length h)
theorem turnS_put {a : Nat} {m l : List UInt8} (w : Wt) (ha : 128 * a + 128 ≤ l.length) (hw : 128 * w.at_ + 128 ≤ l.length) : putS (turnS a m l) (if w.at_ = a then turnW w m else w) = turnS a m (putS l w) := by
  have hx : (xorB (secB l a) m).length = 128 := by rw [xorB_length]; exact secB_length ha
  by_cases h : w.at_ = a
  · rw [if_pos h]
    have hx2 : (xorB w.b m).length = 128 := by rw [xorB_length]; exact w.hb
    simp only [putS, turnS, turnW]
    rw [h, setS_twice ha hx hx2, secB_setS (by omega) w.hb, setS_twice ha w.hb hx2]
  · rw [if_neg h]
    simp only [putS, turnS]
    rw [secB_setS_ne hw w.hb h, setS_comm ha hw hx w.hb (fun q => h q.symm)]
theorem nowW_out (d e : Nat) (ws : List Wt) (pl : List UInt8) : nowW d (outW e ws) pl = if d = e then pl else nowW d ws pl := by
  unfold nowW outW
  rw [List.filter_filter]
  by_cases h : d = e
  · rw [if_pos h]
    have : ws.filter (fun a => decide (a.d = d) && decide (a.d ≠ e)) = [] := by
      rw [List.filter_eq_nil_iff]; intro a _; simp; omega
    rw [this]; rfl
  · rw [if_neg h]
    congr 1
    apply List.filter_congr
    intro a _
    by_cases h2 : a.d = d <;> simp [h2, h]
theorem nowW_none {d : Nat} {ws : List Wt} (h : ∀ w ∈ ws, w.d ≠ d) (pl : List UInt8) : nowW d ws pl = pl := by
  unfold nowW
  rw [show ws.filter (fun w => decide (w.d = d)) = [] from by rw [List.filter_eq_nil_iff]; intro a ha; simpa using h a ha]
  rfl
theorem nowW_app {d : Nat} (ws t : List Wt) (pl : List UInt8) (h : ∀ w ∈ t, w.d ≠ d) : nowW d (ws ++ t) pl = nowW d ws pl := by
  unfold nowW
  rw [List.filter_append, show t.filter (fun w => decide (w.d = d)) = [] from by rw [List.filter_eq_nil_iff]; intro a ha; simpa using h a ha, List.append_nil]
theorem nowW_co {d a n : Nat} {m : List UInt8} (ha : 128 * a + 128 ≤ n) : ∀ (ws : List Wt) (pl : List UInt8), pl.length = n → (∀ w ∈ ws, w.d = d → 128 * w.at_ + 128 ≤ n) → nowW d (coW d a m ws) (turnS a m pl) = turnS a m (nowW d ws pl)
  | [], pl, _, _ => rfl
  | w :: ws, pl, hl, hw => by
    have ih := fun pl' (h : pl'.length = n) => nowW_co ha (m := m) ws pl' h fun x hx => hw x (List.mem_cons_of_mem _ hx)
    by_cases hd : w.d = d
    · have hwf := hw w (List.mem_cons_self ..) hd
      have e1 : nowW d (w :: ws) pl = nowW d ws (putS pl w) := by
        unfold nowW; rw [List.filter_cons, if_pos (by simpa using hd), List.foldl_cons]
      have e2 : nowW d (coW d a m (w :: ws)) (turnS a m pl) = nowW d (coW d a m ws) (putS (turnS a m pl) (if w.at_ = a then turnW w m else w)) := by
        unfold nowW coW
        rw [List.map_cons, List.filter_cons, if_pos (by split; exact decide_eq_true hd; exact decide_eq_true hd), List.foldl_cons]
        congr 2
        by_cases h : w.at_ = a
        · rw [if_pos ⟨hd, h⟩, if_pos h]
        · rw [if_neg (fun q => h q.2), if_neg h]
      rw [e1, e2, turnS_put w (by omega) (by omega)]
      exact ih _ (by rw [putS, setS_length (by omega) w.hb]; exact hl)
    · have e1 : nowW d (w :: ws) pl = nowW d ws pl := by
        unfold nowW; rw [List.filter_cons, if_neg (by simpa using hd)]
      have e2 : nowW d (coW d a m (w :: ws)) (turnS a m pl) = nowW d (coW d a m ws) (turnS a m pl) := by
        unfold nowW coW
        rw [List.map_cons, List.filter_cons, if_neg (by rw [if_neg (fun q => hd q.1)]; simpa using hd)]
      rw [e1, e2]; exact ih pl hl
theorem nowW_co_ne {d e a : Nat} {m : List UInt8} (hne : d ≠ e) (ws : List Wt) (pl : List UInt8) : nowW d (coW e a m ws) pl = nowW d ws pl := by
  unfold nowW
  congr 1
  induction ws with
  | nil => rfl
  | cons w r ih =>
    unfold coW at ih ⊢
    rw [List.map_cons, List.filter_cons, List.filter_cons, ih]
    by_cases hd : w.d = d
    · rw [if_neg (c := w.d = e ∧ w.at_ = a) (fun q => hne (hd.symm.trans q.1))]
    · rw [if_neg (c := decide (w.d = d) = true) (by simpa using hd), if_neg]
      split
      · exact fun q => hd (of_decide_eq_true q)
      · exact fun q => hd (of_decide_eq_true q)
theorem wrN_now {d a : Nat} {b pl : List UInt8} : ∀ (k i : Nat) (s : Pw) (nw : List UInt8) (ws : List Wt), 128 * (i + k) ≤ b.length → nw = nowW d ws pl → (wrN d a b k i s nw ws).2.1 = nowW d (wrN d a b k i s nw ws).2.2.1 pl
  | 0, i, s, nw, ws, _, h => h
  | k + 1, i, s, nw, ws, hb, h => by
    rw [wrN]
    split
    · exact h
    · refine wrN_now k (i + 1) _ _ _ (by omega) ?_
      rw [nowW_snoc, if_pos (show (mkW d (a + i) (secB b i)).d = d from rfl), ← h]
      show setS nw (a + i) (secB b i) = setS nw (a + i) (pad (secB b i))
      rw [pad_id (secB_length (by omega))]
/-- How much a write makes of it. -/
theorem wrN_much {d a : Nat} {b : List UInt8} : ∀ (k i : Nat) (s : Pw) (nw : List UInt8) (ws : List Wt), (wrN d a b k i s nw ws).1.wr ≤ s.wr + k ∧ (wrN d a b k i s nw ws).2.2.1.length ≤ ws.length + k ∧ (s.left ≤ 9223372036854775807 → (wrN d a b k i s nw ws).1.left ≤ 9223372036854775807)
  | 0, i, s, nw, ws => by simp [wrN]
  | k + 1, i, s, nw, ws => by
    rw [wrN]
    split
    · refine ⟨by simp only; omega, by simp only; omega, fun _ => by simp only; omega⟩
    · obtain ⟨h1, h2, h3⟩ := wrN_much (d := d) (a := a) (b := b) k (i + 1) { s with left := if 0 < s.left then s.left - 1 else s.left, wr := s.wr + 1 } (setS nw (a + i) (secB b i)) (ws ++ [mkW d (a + i) (secB b i)])
      refine ⟨by simp only at h1; omega, by rw [List.length_append, List.length_singleton] at h2; omega, fun h => h3 ?_⟩
      simp only
      split <;> omega
structure Much (s s' : Pw) (ws ws' : List Wt) : Prop where
  wr : s'.wr ≤ s.wr + 8192
  len : ws'.length ≤ ws.length + 8192
  left : s.left ≤ 9223372036854775807 → s'.left ≤ 9223372036854775807
theorem wrS_much {d n : Nat} (hn : n ≤ 1048576) {at_ : Int} {b : List UInt8} (s : Pw) (f : Bool) (nw : List UInt8) (ws : List Wt) : Much s (wrS d n at_ b s f nw ws).1 ws (wrS d n at_ b s f nw ws).2.2.1 := by
  unfold wrS
  split
  · exact ⟨by simp, by simp, id⟩
  split
  · exact ⟨by simp, by simp, id⟩
  split
  · exact ⟨by simp, by simp, id⟩
  · rename_i hm
    have hm : wrMay n at_ b := Decidable.byContradiction hm
    obtain ⟨m1, m2, m3, m4⟩ := hm
    obtain ⟨h1, h2, h3⟩ := wrN_much (d := d) (a := at_.toNat) (b := b) (b.length / 128) 0 s nw ws
    exact ⟨by omega, by omega, h3⟩
theorem wrS_app (d n : Nat) (at_ : Int) (b : List UInt8) (s : Pw) (f : Bool) (nw : List UInt8) (ws : List Wt) : ∃ t, (wrS d n at_ b s f nw ws).2.2.1 = ws ++ t ∧ ∀ w ∈ t, w.d = d := by
  unfold wrS
  split
  · exact ⟨[], by simp, by simp⟩
  split
  · exact ⟨[], by simp, by simp⟩
  split
  · exact ⟨[], by simp, by simp⟩
  · exact wrN_app _ _ _ _ _
theorem wrS_now {d n : Nat} {at_ : Int} {b pl : List UInt8} (s : Pw) (f : Bool) (nw : List UInt8) (ws : List Wt) (h : nw = nowW d ws pl) : (wrS d n at_ b s f nw ws).2.1 = nowW d (wrS d n at_ b s f nw ws).2.2.1 pl := by
  unfold wrS
  split; exact h
  split; exact h
  split; exact h
  exact wrN_now _ _ _ _ _ (by omega) h
end Go.Sl
namespace Go.Proofs.Ytpppaohhnlgfoaa
open Go.Sl
theorem mem_setD {ds : List Dk} {d : Nat} {g : Dk → Dk} {z : Dk} (h : z ∈ setD ds d g) : ∃ y ∈ ds, z = if y.d = d then g y else y := by
  obtain ⟨y, h1, h2⟩ := List.mem_map.1 h
  exact ⟨y, h1, h2.symm⟩
/-- One disk turned, what waits for the others as it was. -/
theorem now_set {R : Rk} (hok : DkOk R.ds) (h : NowOk R) {x : Dk} (hx : x ∈ R.ds) (s' : Pw) (ws' : List Wt) (g : Dk → Dk) (hgd : (g x).d = x.d) (hx' : (g x).now = nowW x.d ws' (g x).pl ∧ (g x).pl.length % 128 = 0) (hy' : ∀ d pl, d ≠ x.d → nowW d ws' pl = nowW d R.ws pl) : NowOk ⟨s', ws', setD R.ds x.d g⟩ := by
  intro z hz
  obtain ⟨y, hy, rfl⟩ := mem_setD hz
  by_cases hd : y.d = x.d
  · rw [if_pos hd, disk_one hok.1 hy hx hd, hgd]; exact hx'
  · rw [if_neg hd]
    show y.now = nowW y.d ws' y.pl ∧ _
    rw [hy' y.d y.pl hd]; exact h y hy
theorem now_write {R : Rk} (hok : DkOk R.ds) (h : NowOk R) {x : Dk} (hx : x ∈ R.ds) (at_ : Int) (b : List UInt8) : NowOk (R.write x at_ b) := by
  obtain ⟨h1, h2⟩ := h x hx
  refine now_set hok h hx _ _ _ rfl ⟨wrS_now _ _ _ _ h1, h2⟩ fun d pl hd => ?_
  obtain ⟨t, e, ht⟩ := wrS_app x.d x.pl.length at_ b R.pw x.failed x.now R.ws
  rw [e]; exact nowW_app _ _ _ fun w hw q => hd (by rw [← q, ht w hw])
theorem now_flush {R : Rk} (hok : DkOk R.ds) (h : NowOk R) {x : Dk} (hx : x ∈ R.ds) : NowOk (R.flush x) := by
  obtain ⟨h1, h2⟩ := h x hx
  have hl := (hok.2 x hx).1
  refine now_set hok h hx _ _ _ rfl ?_ fun d pl hd => ?_
  · simp only [flW, flP]
    by_cases hf : flE R.pw x.failed = 0
    · simp only [if_pos hf]; rw [nowW_out, if_pos rfl]; exact ⟨rfl, by rw [hl]; exact h2⟩
    · simp only [if_neg hf]; exact ⟨h1, h2⟩
  · simp only [flW]; split
    · rw [nowW_out, if_neg hd]
    · rfl
theorem now_fail {R : Rk} (hok : DkOk R.ds) (h : NowOk R) {x : Dk} (hx : x ∈ R.ds) : NowOk (R.fail x) :=
  now_set hok h hx _ _ _ rfl ⟨by simp only; rw [nowW_out, if_pos rfl], (h x hx).2⟩ fun d pl hd => by rw [nowW_out, if_neg hd]
theorem now_replace {R : Rk} (hok : DkOk R.ds) (h : NowOk R) {x : Dk} (hx : x ∈ R.ds) : NowOk (R.replace x) :=
  now_set hok h hx _ _ _ rfl ⟨by simp only; rw [nowW_out, if_pos rfl], by simp only [List.length_replicate]; exact (h x hx).2⟩ fun d pl hd => by rw [nowW_out, if_neg hd]
theorem now_corrupt {R : Rk} (hok : DkOk R.ds) (hwo : WtOk R.ws R.ds) (h : NowOk R) {x : Dk} (hx : x ∈ R.ds) (at_ : Int) (m : List UInt8) : NowOk (R.corrupt x at_ m) := by
  obtain ⟨h1, h2⟩ := h x hx
  have hl := (hok.2 x hx).1
  refine now_set hok h hx _ _ _ rfl ?_ fun d pl hd => ?_
  · simp only [coWs, coB]
    by_cases he : coE x.failed x.pl.length at_ m = 0
    · simp only [if_pos he]
      have hm : coMay x.pl.length at_ m := by
        unfold coE at he; split at he; cases he; split at he; assumption; cases he
      obtain ⟨m1, m2, m3⟩ := hm
      have hfit : 128 * at_.toNat + 128 ≤ x.pl.length := by omega
      have e := nowW_co (d := x.d) (m := m) hfit R.ws x.pl rfl fun w hw hd => (hwo w hw).2 x hx hd.symm
      rw [← h1] at e
      refine ⟨e.symm, ?_⟩
      have := turnS_length (m := m) hfit
      unfold turnS at this
      rw [this]; exact h2
    · simp only [if_neg he]; exact ⟨h1, h2⟩
  · simp only [coWs]; split
    · exact nowW_co_ne hd _ _
    · rfl
theorem now_up {R : Rk} (hok : DkOk R.ds) (hwo : WtOk R.ws R.ds) (h : NowOk R) (st : List Bool) : NowOk (R.up st) := by
  intro z hz
  obtain ⟨y, hy, rfl⟩ := List.mem_map.1 hz
  refine ⟨rfl, ?_⟩
  rw [upW_map] at hy
  obtain ⟨x, hx, rfl⟩ := List.mem_map.1 hy
  show (upS x.d R.ws st x.pl).length % 128 = 0
  rw [upS_length rfl fun w hw hd => (hwo w hw).2 x hx hd.symm]
  exact (h x hx).2
theorem now_add {R : Rk} (hwo : WtOk R.ws R.ds) (h : NowOk R) (d gp gn n : Nat) (hd : ∀ y ∈ R.ds, y.d ≠ d) : NowOk (R.add d gp gn n) := by
  intro z hz
  rcases List.mem_append.1 hz with hz | hz
  · exact h z hz
  · rw [List.mem_singleton.1 hz]
    refine ⟨?_, by simp only [List.length_replicate]; omega⟩
    show List.replicate (n * 128) 0 = nowW d R.ws (List.replicate (n * 128) 0)
    rw [nowW_none]
    intro w hw q
    obtain ⟨⟨y, h1, h2⟩, -⟩ := hwo w hw
    exact hd y h1 (h2.trans q)
end Go.Proofs.Ytpppaohhnlgfoaa
