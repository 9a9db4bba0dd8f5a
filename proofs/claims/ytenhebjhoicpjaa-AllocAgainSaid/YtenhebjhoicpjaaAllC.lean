/-
  Allocators, plain: group after group (AllocSafe); all given out, let go and given out again (AllocWhole).
-/
import Derived.Test.YtenhebjhoicpjaaAllB
namespace Go.Sl
section
variable {a b : Al} {H W o f n : List Pl} {p q : Pl}
theorem Sc.by_ (h : Sc a H W) (hb : b.Ok) (h1 : b.sizes = a.sizes) (h2 : b.free = a.free) (h3 : b.waits = a.waits) : Sc b H W := by
  have hf : ∀ t, b.fr t = a.fr t := fun t => by simp only [Al.fr, h2]
  have hw : ∀ t, b.wt t = a.wt t := fun t => by simp only [Al.wt, h3]
  have hs : ∀ t, b.size t = a.size t := fun t => by simp only [Al.size, h1]
  exact ⟨hb, by rw [h1]; exact h.sm, fun q hq => by rw [h1, hs]; exact h.top q hq, h.apart, fun t ht => by rw [hs, hw]; exact h.wt t (by rw [← h1]; exact ht), fun t ht => by rw [hs, hf]; exact h.fr t (by rw [← h1]; exact ht), by rw [h3]; exact h.sumW, by rw [h2, h1]; exact h.sumF⟩
theorem Ap.meets (h : Ap p q) (hp : p.sp.may = true) (hq : q.sp.may = true) : ¬ (p.top = q.top ∧ p.sp.at_ < q.sp.at_ + q.sp.many ∧ q.sp.at_ < p.sp.at_ + p.sp.many) := by
  rintro ⟨h1, h2, h3⟩
  have m1 := Sp.may_iff.1 hp
  have m2 := Sp.may_iff.1 hq
  exact h h1 (max p.sp.at_ q.sp.at_) (by simp only [Sp.has, Sp.fin]; omega) (by simp only [Sp.has, Sp.fin]; omega)
def gby (k : Int) (l : List Pl) : List (Int × List Pl) := l.map fun p => (k, [p])
theorem gby_flat (k : Int) (l : List Pl) : (gby k l).flatMap (·.2) = l := by
  induction l with
  | nil => rfl
  | cons p r ih => simp only [gby, List.map_cons, List.flatMap_cons] at ih ⊢; rw [ih]; rfl
theorem gby_mem {k : Int} {l : List Pl} {g : Int × List Pl} (h : g ∈ gby k l) : g.1 = k := by
  obtain ⟨p, -, rfl⟩ := List.mem_map.1 h; rfl
theorem gby_all (P : Int → Bool) (k : Int) (l : List Pl) : (gby k l).filter (fun g => P g.1) = if P k then gby k l else [] := by
  cases c : P k with
  | true => rw [if_pos rfl]; exact List.filter_eq_self.2 fun g hg => by rw [gby_mem hg]; exact c
  | false => rw [if_neg (by simp)]; exact List.filter_eq_nil_iff.2 fun g hg => by rw [gby_mem hg, c]; simp
/-- A group is committed: what was let go two groups ago comes back. -/
theorem Sc.sync {k : Nat} (h : Sc a H ((o ++ f) ++ n)) (ho : o.length ≤ 1) (hby : a.by_ = gby ((k : Int) - 1) o ++ gby k f ++ gby ((k : Int) + 1) n) (hs : a.Sync ((k : Int) + 1) b) :
    Sc b H (f ++ n) ∧ b.by_ = gby k f ++ gby ((k : Int) + 1) n ∧ b.sizes = a.sizes := by
  have hbo := Al.sync_ok h.ok hs
  obtain ⟨gs, hp, rfl⟩ := hs
  have h1 : a.by_.filter (fun g => ripe ((k : Int) + 1) g.1) = gby ((k : Int) - 1) o := by
    rw [hby, List.filter_append, List.filter_append, gby_all, gby_all, gby_all]
    rw [if_neg (c := ripe ((k : Int) + 1) k = true) (by simp only [ripe, decide_eq_true_eq]; omega), if_neg (c := ripe ((k : Int) + 1) ((k : Int) + 1) = true) (by simp only [ripe, decide_eq_true_eq]; omega), List.append_nil, List.append_nil]
    cases o with
    | nil => simp [gby]
    | cons p r =>
      have := h.ok.u64 ((k : Int) - 1, [p]) (by rw [hby]; simp [gby])
      rw [if_pos]
      simp only [ripe, decide_eq_true_eq]
      simp only at this
      omega
  have h2 : a.by_.filter (fun g => !ripe ((k : Int) + 1) g.1) = gby k f ++ gby ((k : Int) + 1) n := by
    rw [hby, List.filter_append, List.filter_append, gby_all (fun j => !ripe ((k : Int) + 1) j), gby_all (fun j => !ripe ((k : Int) + 1) j), gby_all (fun j => !ripe ((k : Int) + 1) j)]
    rw [if_pos (c := (!ripe ((k : Int) + 1) k) = true) (by simp only [ripe, Bool.not_eq_true', decide_eq_false_iff_not]; omega), if_pos (c := (!ripe ((k : Int) + 1) ((k : Int) + 1)) = true) (by simp only [ripe, Bool.not_eq_true', decide_eq_false_iff_not]; omega)]
    cases o with
    | nil => simp [gby]
    | cons p r =>
      have := h.ok.u64 ((k : Int) - 1, [p]) (by rw [hby]; simp [gby])
      rw [if_neg, List.nil_append]
      simp only [ripe, Bool.not_eq_true', decide_eq_false_iff_not]
      simp only at this
      omega
  rw [h1] at hp
  have hg : gs = gby ((k : Int) - 1) o := by
    cases o with
    | nil => exact hp.eq_nil
    | cons p r =>
      cases r with
      | nil => exact List.perm_singleton.1 hp
      | cons _ _ => simp only [List.length_cons] at ho; omega
  subst hg
  have h3 : Sc (a.backs o) H (f ++ n) := Sc.backs (by rw [← List.append_assoc]; exact h)
  rw [gby_flat] at hbo ⊢
  have e := (Al.backs_sizes a o).1
  exact ⟨h3.by_ hbo rfl rfl rfl, h2, e⟩

/-! ### Whole -/
theorem Sf.setF {ks : List Int} (h : Sf a ks) {t : Nat} (h1 : t < a.sizes.length) {c m : Int} (h3 : findL (a.fr t) m 0 = (c, true)) :
    c = ks.getD t 0 ∧ 1 ≤ m ∧ ks.getD t 0 + m ≤ a.size t ∧ Sf (a.setF t (remS (a.fr t) ⟨c, m⟩)) (ks.set t (ks.getD t 0 + m)) := by
  rw [h.fr t h1] at h3
  have hk := h.le t h1
  have hs := size_le h.ok t
  obtain ⟨rfl, hm, hkn⟩ := sfx_find hk.1 h3
  obtain ⟨r1, r2⟩ := sfx_rem hk.1 hm hkn hs.2
  rw [← h.fr t h1] at r1 r2
  have hff := fun i => Al.fr_setF a t i (remS (a.fr t) ⟨ks.getD t 0, m⟩) (by rw [h.ok.nf]; exact h1)
  refine ⟨rfl, hm, hkn, h.ok.setF (remS_gd (h.ok.frAt t) _), h.by_, h.wt, by rw [List.length_set]; exact h.len, fun i hi => ?_, fun i hi => ?_⟩
  · rw [getD_set]
    split
    · rename_i q
      obtain ⟨rfl, -⟩ := q
      exact ⟨by omega, hkn⟩
    · exact h.le i hi
  · rw [getD_set, hff]
    by_cases q : t = i
    · subst q
      rw [if_pos rfl, if_pos ⟨rfl, by rw [h.len]; exact h1⟩]; exact r2
    · rw [if_neg q, if_neg (fun z => q z.1)]; exact h.fr i hi
theorem sumL_setI : ∀ (l : List Int) (t : Nat) (x : Int), t < l.length → sumL (l.set t x) = sumL l - l.getD t 0 + x
  | [], t, x, h => by simp at h
  | y :: r, 0, x, h => by simp only [List.set_cons_zero, sumL, List.getD_cons_zero]; omega
  | y :: r, t + 1, x, h => by
    simp only [List.length_cons] at h
    simp only [List.set_cons_succ, sumL, List.getD_cons_succ, sumL_setI r t x (by omega)]; omega
/-- What has been given out, piece by piece of one size: so many pieces of each top. -/
structure Wh (need : Int) (a : Al) (cs : List Int) (got : List Pl) : Prop where
  sc : Sc a got []
  sf : Sf a (cs.map (· * need))
  sum : sumL cs = got.length
  many : ∀ p ∈ got, p.sp.many = need
def wantL (sizes : List Int) (need : Int) : Int := sumL (sizes.map (· / need))
theorem getD_map {α β : Type} (g : α → β) (l : List α) (t : Nat) (d : α) : (l.map g).getD t (g d) = g (l.getD t d) := by
  rw [List.getD_eq_getElem?_getD, List.getD_eq_getElem?_getD, List.getElem?_map]
  cases l[t]? <;> rfl
theorem Wh.c {need : Int} {cs : List Int} {got : List Pl} (h : Wh need a cs got) (t : Nat) : (cs.map (· * need)).getD t 0 = cs.getD t 0 * need := by
  have := getD_map (· * need) cs t 0
  simpa using this
theorem Wh.len {need : Int} {cs : List Int} {got : List Pl} (h : Wh need a cs got) : cs.length = a.sizes.length := by have := h.sf.len; rwa [List.length_map] at this
theorem sumL_mono : ∀ {l m : List Int}, l.length = m.length → (∀ t : Nat, t < l.length → l.getD t 0 ≤ m.getD t 0) → sumL l ≤ sumL m
  | [], [], _, _ => Int.le_refl _
  | x :: r, y :: s, hl, h => by
    have h1 := h 0 (by simp)
    have h2 := sumL_mono (l := r) (m := s) (by simpa using hl) fun t ht => by have := h (t + 1) (by simpa using ht); simpa using this
    simp only [List.getD_cons_zero] at h1
    simp only [sumL]; omega
  | [], _ :: _, hl, _ => by simp at hl
  | _ :: _, [], hl, _ => by simp at hl
theorem Wh.le {need : Int} (hn : 1 ≤ need) {cs : List Int} {got : List Pl} (h : Wh need a cs got) : (got.length : Int) ≤ wantL a.sizes need := by
  rw [← h.sum]
  refine sumL_mono (by rw [List.length_map]; exact h.len) fun t ht => ?_
  have h1 := h.sf.le t (by rw [← h.len]; exact ht)
  rw [h.c] at h1
  have := getD_map (· / need) a.sizes t 0
  simp only [Int.zero_ediv] at this
  rw [this]
  exact (Int.le_ediv_iff_mul_le (by omega)).2 h1.2
theorem Wh.new {need : Int} {sizes : List Int} (h : Al.badSizes sizes = false) (hs : ∀ n ∈ sizes, n ≤ 8191) : Wh need (Al.new sizes) (sizes.map fun _ => 0) [] := by
  refine ⟨sc_new h hs, ?_, ?_, by simp⟩
  · have := Sf.new h
    rw [List.map_map]
    rw [show ((fun x => x * need) ∘ fun _ : Int => (0 : Int)) = fun _ => 0 from funext fun _ => by simp]
    exact this
  · clear h hs
    induction sizes with
    | nil => rfl
    | cons x r ih => simp only [List.map_cons, sumL, ih]; simp
theorem rep_getD {k : Nat} {x : Int} {t : Nat} (h : t < k) : (List.replicate k x).getD t 0 = x := by
  rw [List.getD_eq_getElem?_getD, List.getElem?_replicate, if_pos h]; rfl
/-- One more piece, or all are given out. -/
theorem Wh.take {need : Int} (hn : 1 ≤ need) {cs : List Int} {got : List Pl} (h : Wh need a cs got) :
    ((a.take (List.replicate a.sizes.length need)).1 = a ∧ (a.take (List.replicate a.sizes.length need)).2.2 = 3 ∧ (got.length : Int) = wantL a.sizes need) ∨
    ∃ cs', (a.take (List.replicate a.sizes.length need)).2.2 = 0 ∧ Wh need (a.take (List.replicate a.sizes.length need)).1 cs' (got ++ [(a.take (List.replicate a.sizes.length need)).2.1]) ∧ (a.take (List.replicate a.sizes.length need)).1.sizes = a.sizes := by
  have hnb : a.badNeed (List.replicate a.sizes.length need) = false := by
    have h1 := h.sc.ok.n1
    simp only [Al.badNeed, List.length_replicate, Bool.or_eq_false_iff, decide_eq_false_iff_not, Decidable.not_not]
    refine ⟨⟨trivial, ?_⟩, ?_⟩
    · rw [List.any_eq_false]
      intro x hx
      rw [List.eq_of_mem_replicate hx, decide_eq_true_eq]; omega
    · rw [List.all_eq_false]
      exact ⟨need, List.mem_replicate.2 ⟨by omega, rfl⟩, by rw [decide_eq_true_eq]; omega⟩
  have hsc := h.sc.take (List.replicate a.sizes.length need)
  rcases take_cases h.sc.ok (List.replicate a.sizes.length need) with ⟨hb, -⟩ | ⟨-, hno, e⟩ | ⟨-, t, c, h1, h2, h3, e⟩
  · rw [hnb] at hb; cases hb
  · left
    rw [e]
    refine ⟨rfl, rfl, ?_⟩
    rw [← h.sum]
    have hle := h.le hn
    rw [← h.sum] at hle
    refine Int.le_antisymm hle ?_
    refine sumL_mono (by rw [List.length_map]; exact h.len.symm) fun t ht => ?_
    rw [List.length_map] at ht
    have h4 := hno t (by rw [List.length_replicate]; exact ht) (by rw [rep_getD ht]; omega)
    rw [rep_getD ht, h.sf.fr t ht, h.c] at h4
    have h5 := h.sf.le t ht
    rw [h.c] at h5
    have hs := h.sc.size t
    have := getD_map (· / need) a.sizes t 0
    simp only [Int.zero_ediv] at this
    rw [this]
    have h6 : a.size t < (cs.getD t 0 + 1) * need := by
      rw [Int.add_mul, Int.one_mul]
      generalize cs.getD t 0 * need = K at *
      by_cases c : a.size t < K + need
      · exact c
      · exfalso
        unfold findL at h4
        rw [if_neg (by omega), sfx, if_pos (by omega)] at h4
        simp only [findA] at h4
        rw [if_pos (by simp only [Sp.fin]; omega)] at h4
        cases h4
    have h7 := (Int.ediv_lt_iff_lt_mul (a := a.size t) (b := cs.getD t 0 + 1) (c := need) (by omega)).2 h6
    unfold Al.size at h7
    omega
  · right
    rw [List.length_replicate] at h1
    rw [rep_getD h1] at h3
    rcases hsc with ⟨q, -⟩ | ⟨t', c', m', e1, e2, -, -, -, -, -, -, -, -, hS⟩
    · rw [e] at q; exact absurd rfl q
    rw [e] at e1 e2 hS ⊢
    simp only [rep_getD h1] at e1 e2 hS ⊢
    have e1' := (Prod.mk.inj e1).1
    rw [← e1'] at hS
    obtain ⟨-, -, -, hSf⟩ := h.sf.setF h1 h3
    refine ⟨cs.set t (cs.getD t 0 + 1), by simp only, ⟨hS, ?_, ?_, ?_⟩, by simp only [Al.setF]⟩
    · rw [h.c] at hSf
      rw [show (cs.set t (cs.getD t 0 + 1)).map (· * need) = (cs.map (· * need)).set t (cs.getD t 0 * need + need) by
        rw [List.map_set, Int.add_mul, Int.one_mul]]
      exact hSf
    · rw [sumL_setI _ _ _ (by rw [h.len]; exact h1), h.sum, List.length_append, List.length_singleton]; omega
    · intro p hp
      rcases List.mem_append.1 hp with hp | hp
      · exact h.many p hp
      · rw [List.mem_singleton.1 hp]
def byW (k : Int) (l : List Pl) : List (Int × List Pl) := if l = [] then [] else [(k, l)]
theorem byW_add (k : Int) (l : List Pl) (p : Pl) : addBy (byW k l) k p = byW k (l ++ [p]) := by
  unfold byW
  cases l with
  | nil => simp [addBy]
  | cons x r => simp [addBy]
theorem sum_many {need : Int} : ∀ {l : List Pl}, (∀ p ∈ l, p.sp.many = need) → sumL (l.map fun p => p.sp.many) = l.length * need
  | [], _ => by simp [sumL]
  | p :: r, h => by
    have h1 := h p (List.mem_cons_self ..)
    have h2 := sum_many (l := r) fun q hq => h q (List.mem_cons_of_mem _ hq)
    simp only [List.map_cons, sumL, h1, h2, List.length_cons]
    rw [show ((r.length + 1 : Nat) : Int) = (r.length : Int) + 1 by omega, Int.add_mul, Int.one_mul]; omega
/-- Too early. -/
theorem sync8 {got : List Pl} (hby : a.by_ = byW 7 got) (hs : a.Sync 8 b) : b = a := by
  obtain ⟨gs, hp, rfl⟩ := hs
  have h1 : a.by_.filter (fun g => ripe 8 g.1) = [] := by
    rw [hby]; unfold byW; split
    · rfl
    · simp [ripe]
  have h2 : a.by_.filter (fun g => !ripe 8 g.1) = a.by_ := by
    rw [hby]; unfold byW; split
    · rfl
    · simp [ripe]
  rw [h1] at hp
  rw [hp.eq_nil, h2]; rfl
theorem Sc.isNew (h : Sc b [] []) (hby : b.by_ = []) : b = Al.new b.sizes := by
  have hbad : Al.badSizes b.sizes = false := by
    have h1 := h.ok.n1
    have h4 := h.ok.n4
    simp only [Al.badSizes, Bool.or_eq_false_iff, decide_eq_false_iff_not, List.any_eq_false, decide_eq_true_eq]
    exact ⟨⟨by omega, by omega⟩, fun n hn => by have := h.ok.sz n hn; omega⟩
  have k := sc_new hbad h.sm
  refine Al.ext' rfl (by rw [h.ok.nf, k.ok.nf]; rfl) (by rw [h.ok.nw, k.ok.nw]; rfl) (fun t ht => ?_) (fun t ht => ?_) hby
  · rw [h.ok.nf] at ht
    exact (h.fr t ht).eq (k.fr t ht) fun n => Iff.rfl
  · rw [h.ok.nw] at ht
    exact (h.wt t ht).eq (k.wt t ht) fun n => Iff.rfl
theorem sync9 {got : List Pl} (h : Sc a [] got) (hby : a.by_ = byW 7 got) (hs : a.Sync 9 b) : b = Al.new a.sizes := by
  have hbo := Al.sync_ok h.ok hs
  obtain ⟨gs, hp, rfl⟩ := hs
  have h1 : a.by_.filter (fun g => ripe 9 g.1) = byW 7 got := by
    rw [hby]; unfold byW; split
    · rfl
    · simp [ripe]
  have h2 : a.by_.filter (fun g => !ripe 9 g.1) = [] := by
    rw [hby]; unfold byW; split
    · rfl
    · simp [ripe]
  rw [h1] at hp
  have hg : gs = byW 7 got := by
    unfold byW at hp ⊢
    split at hp
    · rename_i c; rw [if_pos c]; exact hp.eq_nil
    · rename_i c; rw [if_neg c]; exact List.perm_singleton.1 hp
  have hfl : (byW 7 got).flatMap (·.2) = got := by
    unfold byW; split
    · rename_i c; rw [c]; rfl
    · simp
  subst hg
  rw [h2, hfl] at hbo ⊢
  have h3 : Sc (a.backs got) [] [] := Sc.backs (by rw [List.append_nil]; exact h)
  have h4 := (h3.by_ hbo rfl rfl rfl).isNew rfl
  have e := (Al.backs_sizes a got).1
  rw [h4]
  simp only [e]
theorem new_room {sizes : List Int} (h : Al.badSizes sizes = false) {t : Nat} (ht : t < sizes.length) : (Al.new sizes).room t = sizes.getD t 0 := by
  have F := Sf.new h
  have hz : (Al.new sizes).fr t = whole ((Al.new sizes).size t) := by
    simp only [Al.fr, Al.new, Al.size, List.getD_eq_getElem?_getD, List.getElem?_map, List.getElem?_eq_getElem ht]
    rfl
  have hs := size_le F.ok t
  unfold Al.room
  rw [if_pos (show (Al.new sizes).has t = true from decide_eq_true (p := 0 ≤ (t : Int) ∧ (t : Int) < (sizes.length : Int)) ⟨Int.natCast_nonneg t, Int.ofNat_lt.2 ht⟩), Int.toNat_natCast, hz]
  have : manyL (whole ((Al.new sizes).size t)) = (Al.new sizes).size t := by
    unfold whole; split
    · simp [manyL]
    · simp only [manyL]; omega
  rw [this]; rfl
theorem new_taken {sizes : List Int} (h : Al.badSizes sizes = false) : (Al.new sizes).taken = [] := by
  have F := Sf.new h
  refine List.flatMap_eq_nil_iff.2 fun t ht => ?_
  have ht := List.mem_range.1 ht
  have hl := F.le t ht
  rw [F.fr t ht, left_sfx hl.1 hl.2 (size_le F.ok t).2]
  have : (sizes.map fun _ => (0 : Int)).getD t 0 = 0 := by
    rw [List.getD_eq_getElem?_getD, List.getElem?_map]
    cases sizes[t]? <;> rfl
  rw [this]; rfl
end
end Go.Sl
