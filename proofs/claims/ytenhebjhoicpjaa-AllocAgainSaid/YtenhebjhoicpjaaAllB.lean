/-
  Allocators, plain: what is held, what waits, what is free.
-/
import Derived.Test.YtenhebjhoicpjaaAllA
namespace Go.Sl
def Ap (p q : Pl) : Prop := p.top = q.top → ∀ n, p.sp.has n → ¬ q.sp.has n
theorem Ap.symm {p q : Pl} (h : Ap p q) : Ap q p := fun e n h1 h2 => h e.symm n h2 h1
theorem sumL_append : ∀ (l m : List Int), sumL (l ++ m) = sumL l + sumL m
  | [], m => by simp [sumL]
  | x :: r, m => by simp only [List.cons_append, sumL, sumL_append r m]; omega
theorem sumL_perm {l m : List Int} (h : l.Perm m) : sumL l = sumL m := by
  induction h with
  | nil => rfl
  | cons x _ ih => simp only [sumL, ih]
  | swap x y l => simp only [sumL]; omega
  | trans _ _ h1 h2 => exact h1.trans h2
theorem sumL_set : ∀ (l : List (List Sp)) (t : Nat) (x : List Sp), t < l.length → sumL ((l.set t x).map manyL) = sumL (l.map manyL) - manyL (l.getD t []) + manyL x
  | [], t, x, h => by simp at h
  | y :: r, 0, x, h => by simp only [List.set_cons_zero, List.map_cons, sumL, List.getD_cons_zero]; omega
  | y :: r, t + 1, x, h => by
    simp only [List.length_cons] at h
    simp only [List.set_cons_succ, List.map_cons, sumL, List.getD_cons_succ, sumL_set r t x (by omega)]; omega
theorem sumL_len {L : List Pl} (h : ∀ p ∈ L, 1 ≤ p.sp.many) : (L.length : Int) ≤ sumL (L.map fun p => p.sp.many) := by
  induction L with
  | nil => simp [sumL]
  | cons p r ih =>
    have h1 := h p (List.mem_cons_self ..)
    have h2 := ih fun q hq => h q (List.mem_cons_of_mem _ hq)
    simp only [List.length_cons, List.map_cons, sumL]
    omega
theorem sumL_nonneg {l : List (List Sp)} (h : ∀ x ∈ l, Okl x) : 0 ≤ sumL (l.map manyL) := by
  induction l with
  | nil => simp [sumL]
  | cons x r ih =>
    have h1 := many_bd (h x (List.mem_cons_self ..)).gd
    have h2 := ih fun q hq => h q (List.mem_cons_of_mem _ hq)
    simp only [List.map_cons, sumL]; omega

/-- What is held (H), what waits (W); all else is free. -/
structure Sc (a : Al) (H W : List Pl) : Prop where
  ok : a.Ok
  sm : ∀ n ∈ a.sizes, n ≤ 8191
  top : ∀ p ∈ H ++ W, (0 ≤ p.top ∧ p.top < a.sizes.length) ∧ p.sp.may = true ∧ p.sp.fin ≤ a.size p.top.toNat
  apart : (H ++ W).Pairwise Ap
  wt : ∀ t : Nat, t < a.sizes.length → Rp (a.size t) (fun n => ∃ p ∈ W, p.top = t ∧ p.sp.has n) (a.wt t)
  fr : ∀ t : Nat, t < a.sizes.length → Rp (a.size t) (fun n => (0 ≤ n ∧ n < a.size t) ∧ ∀ p ∈ H ++ W, p.top = t → ¬ p.sp.has n) (a.fr t)
  sumW : sumL (a.waits.map manyL) = sumL (W.map fun p => p.sp.many)
  sumF : sumL (a.free.map manyL) + sumL ((H ++ W).map fun p => p.sp.many) = sumL a.sizes
section
variable {a : Al} {H W H' W' A B : List Pl} {p q : Pl}
theorem Sc.size (h : Sc a H W) (t : Nat) : 0 ≤ a.size t ∧ a.size t ≤ 8191 := by
  refine ⟨(size_le h.ok t).1, ?_⟩
  unfold Al.size
  rw [List.getD_eq_getElem?_getD]
  cases hc : a.sizes[t]? with
  | none => simp
  | some l => exact h.sm l (List.mem_of_getElem? hc)
theorem Sc.perm (h : Sc a H W) (hH : H.Perm H') (hW : W.Perm W') : Sc a H' W' := by
  have hp := hH.append hW
  refine ⟨h.ok, h.sm, fun p hq => h.top p (hp.mem_iff.2 hq), (hp.pairwise_iff fun h => h.symm).1 h.apart, fun t ht => (h.wt t ht).congr fun n => ?_, fun t ht => (h.fr t ht).congr fun n => ?_, ?_, ?_⟩
  · constructor <;> rintro ⟨p, h1, h2⟩
    · exact ⟨p, hW.mem_iff.1 h1, h2⟩
    · exact ⟨p, hW.mem_iff.2 h1, h2⟩
  · constructor <;> rintro ⟨h1, h2⟩
    · exact ⟨h1, fun p hq => h2 p (hp.mem_iff.2 hq)⟩
    · exact ⟨h1, fun p hq => h2 p (hp.mem_iff.1 hq)⟩
  · rw [h.sumW]; exact sumL_perm (hW.map _)
  · rw [← h.sumF]; congr 1; exact (sumL_perm (hp.map _)).symm
theorem sc_new {sizes : List Int} (h : Al.badSizes sizes = false) (hs : ∀ n ∈ sizes, n ≤ 8191) : Sc (Al.new sizes) [] [] := by
  have F := Sf.new h
  have hz : ∀ t, t < sizes.length → (Al.new sizes).fr t = whole ((Al.new sizes).size t) := fun t ht => by
    simp only [Al.fr, Al.new, Al.size, List.getD_eq_getElem?_getD, List.getElem?_map, List.getElem?_eq_getElem ht]
    rfl
  refine ⟨F.ok, hs, by simp, by simp, fun t ht => ?_, fun t ht => ?_, ?_, ?_⟩
  · rw [F.wt t]; exact (rp_nil _).congr fun n => by simp
  · rw [hz t ht]; exact (rp_whole (by have := (size_le F.ok t).2; omega)).congr fun n => by simp
  · simp only [Al.new, List.map_map, List.map_nil, sumL]
    clear h hs F hz
    induction sizes with
    | nil => rfl
    | cons x r ih => simp only [List.map_cons, sumL, ih, Function.comp, manyL]; omega
  · have h0 := F.ok.sz
    simp only [Al.new] at h0
    simp only [Al.new, List.nil_append, List.map_nil, sumL]
    clear h hs F hz
    induction sizes with
    | nil => rfl
    | cons x r ih =>
      have h1 := h0 x (List.mem_cons_self ..)
      have h2 := ih fun n hn => h0 n (List.mem_cons_of_mem _ hn)
      have h3 : manyL (whole x) = x := by
        unfold whole; split
        · simp [manyL]
        · simp only [manyL]; omega
      simp only [List.map_cons, sumL, h3]; omega
theorem Sc.len (h : Sc a H W) : (H.length : Int) + W.length ≤ sumL a.sizes := by
  have h1 := sumL_len (L := H ++ W) fun p hp => (Sp.may_iff.1 (h.top p hp).2.1).2.1
  have h2 := h.sumF
  have h3 := sumL_nonneg h.ok.fr
  rw [List.length_append] at h1
  omega
/-- Given out. -/
theorem Sc.take (h : Sc a H W) (need : List Int) :
    ((a.take need).2.2 ≠ 0 ∧ (a.take need).1 = a) ∨
    ∃ (t : Nat) (c m : Int), (a.take need).2 = (⟨t, ⟨c, m⟩⟩, 0) ∧ (a.take need).1 = a.setF t (remS (a.fr t) ⟨c, m⟩) ∧ t < need.length ∧ need.getD t 0 = m ∧ need.length = a.sizes.length ∧ findL (a.fr t) m 0 = (c, true) ∧ 0 ≤ c ∧ 1 ≤ m ∧ c + m ≤ a.size t ∧
      (∀ q ∈ H ++ W, Ap ⟨t, ⟨c, m⟩⟩ q) ∧ Sc (a.take need).1 (H ++ [⟨t, ⟨c, m⟩⟩]) W := by
  rcases take_cases h.ok need with ⟨-, e⟩ | ⟨-, -, e⟩ | ⟨hb, t, c, h1, h2, h3, e⟩
  · exact .inl (by rw [e]; simp)
  · exact .inl (by rw [e]; simp)
  right
  have hl := badNeed_len hb
  refine ⟨t, c, need.getD t 0, by rw [e], by rw [e], h1, rfl, hl, h3, ?_⟩
  rw [hl] at h1
  generalize need.getD t 0 = m at *
  have hF := h.fr t h1
  obtain ⟨hmay, hc, hm, hcs, hin⟩ := hF.find h3
  obtain ⟨r1, r2, r3⟩ := hF.rem (h.size t).2 hmay hin
  have hap : ∀ q ∈ H ++ W, Ap ⟨t, ⟨c, m⟩⟩ q := fun q hq he n hn => (hin n hn).2 q hq he.symm
  refine ⟨hc, hm, hcs, hap, ?_⟩
  rw [e]
  have hff := fun i => Al.fr_setF a t i (remS (a.fr t) ⟨c, m⟩) (by rw [h.ok.nf]; exact h1)
  have hpm : ((H ++ [(⟨(t : Int), ⟨c, m⟩⟩ : Pl)]) ++ W).Perm (⟨(t : Int), ⟨c, m⟩⟩ :: (H ++ W)) := by
    rw [List.append_assoc, List.singleton_append]; exact List.perm_middle
  refine ⟨h.ok.setF (remS_gd (h.ok.frAt t) _), h.sm, fun q hq => ?_, ?_, h.wt, fun i hi => ?_, h.sumW, ?_⟩
  · rcases List.mem_cons.1 (hpm.mem_iff.1 hq) with rfl | hq
    · exact ⟨⟨by simp only; omega, by simp only [Al.setF]; omega⟩, hmay, hcs⟩
    · exact h.top q hq
  · exact (hpm.pairwise_iff fun h => h.symm).2 (List.pairwise_cons.2 ⟨hap, h.apart⟩)
  · simp only
    rw [hff]
    have hmem : ∀ q, q ∈ (H ++ [(⟨(t : Int), ⟨c, m⟩⟩ : Pl)]) ++ W ↔ q = ⟨(t : Int), ⟨c, m⟩⟩ ∨ q ∈ H ++ W := fun q => by rw [hpm.mem_iff, List.mem_cons]
    by_cases q : t = i
    · subst q
      rw [if_pos rfl]
      refine r2.congr fun n => ?_
      constructor
      · rintro ⟨⟨h1, h2⟩, h3⟩
        refine ⟨h1, fun q hq => ?_⟩
        rcases (hmem q).1 hq with rfl | hq
        · exact fun _ => h3
        · exact h2 q hq
      · rintro ⟨h1, h2⟩
        exact ⟨⟨h1, fun q hq => h2 q ((hmem q).2 (.inr hq))⟩, h2 _ ((hmem _).2 (.inl rfl)) rfl⟩
    · rw [if_neg q]
      refine (h.fr i hi).congr fun n => ?_
      constructor
      · rintro ⟨h1, h2⟩
        refine ⟨h1, fun z hz => ?_⟩
        rcases (hmem z).1 hz with rfl | hz
        · intro e; simp only at e; omega
        · exact h2 z hz
      · rintro ⟨h1, h2⟩
        exact ⟨h1, fun z hz => h2 z ((hmem z).2 (.inr hz))⟩
  · have h5 := h.sumF
    have h6 := sumL_perm (hpm.map fun p => p.sp.many)
    have h7 := sumL_set a.free t (remS (a.fr t) ⟨c, m⟩) (by rw [h.ok.nf]; exact h1)
    simp only [List.map_cons, sumL] at h6
    simp only [Al.setF]
    rw [h7, h6, r3]
    simp only [Al.fr] at *
    omega
theorem addBy_new {l : List (Int × List Pl)} {k : Int} (h : ∀ g ∈ l, g.1 ≠ k) (p : Pl) : addBy l k p = l ++ [(k, [p])] := by
  induction l with
  | nil => rfl
  | cons g r ih =>
    obtain ⟨j, m⟩ := g
    have h1 := h _ (List.mem_cons_self ..)
    unfold addBy
    rw [if_neg h1, ih fun g hg => h g (List.mem_cons_of_mem _ hg)]; rfl
theorem Sc.heldB (h : Sc a (A ++ p :: B) W) : a.held p = true := by
  have hp : p ∈ (A ++ p :: B) ++ W := List.mem_append_left _ (List.mem_append_right _ (List.mem_cons_self ..))
  obtain ⟨h1, h2, h3⟩ := h.top p hp
  have ht : p.top.toNat < a.sizes.length := by omega
  refine (held_iff h.ok p).2 ⟨h1, h2, h3, ((h.fr _ ht).meets_not h2).2 fun n hn hq => hq.2 p hp (by omega) hn, ((h.wt _ ht).meets_not h2).2 ?_⟩
  rintro n hn ⟨q, hq, e, hqn⟩
  have h5 := h.apart
  rw [List.append_assoc, List.pairwise_append] at h5
  have h6 := List.pairwise_append.1 (show ((p :: B) ++ W).Pairwise Ap from h5.2.1)
  exact h6.2.2 p (List.mem_cons_self ..) q hq (by omega) n hn hqn
/-- Let go. -/
theorem Sc.letgo (h : Sc a (A ++ p :: B) W) {txg : Int} (hx : 0 ≤ txg ∧ txg < 18446744073709551616) :
    (a.letgo p txg).2 = 0 ∧ (a.letgo p txg).1.by_ = addBy a.by_ txg p ∧ (a.letgo p txg).1.sizes = a.sizes ∧ (a.letgo p txg).1.free = a.free ∧ Sc (a.letgo p txg).1 (A ++ B) (W ++ [p]) := by
  have hh := h.heldB
  have hp : p ∈ (A ++ p :: B) ++ W := List.mem_append_left _ (List.mem_append_right _ (List.mem_cons_self ..))
  obtain ⟨h1, h2, h3⟩ := h.top p hp
  have ht : p.top.toNat < a.sizes.length := by omega
  have ho := Al.letgo_ok h.ok p hx
  have e : a.letgo p txg = ({ a.setW p.top.toNat (addS (a.wt p.top.toNat) p.sp) with by_ := addBy a.by_ txg p }, 0) := by unfold Al.letgo; rw [if_pos hh]
  have hw := ((held_iff h.ok p).1 hh).2.2.2.2
  obtain ⟨r1, r2, r3⟩ := (h.wt _ ht).add (h.size _).2 h2 h3 (((h.wt _ ht).meets_not h2).1 hw)
  rw [e] at ho ⊢
  have hff := fun i => Al.wt_setW a p.top.toNat i (addS (a.wt p.top.toNat) p.sp) (by rw [h.ok.nw]; exact ht)
  have hpm : ((A ++ B) ++ (W ++ [p])).Perm ((A ++ p :: B) ++ W) := by
    rw [← List.append_assoc]
    refine (List.perm_append_singleton p _).trans ?_
    rw [List.append_assoc, List.append_assoc]
    exact List.perm_middle.symm
  refine ⟨rfl, rfl, rfl, rfl, ho, h.sm, fun q hq => h.top q (hpm.mem_iff.1 hq), (hpm.pairwise_iff fun h => h.symm).2 h.apart, fun i hi => ?_, fun i hi => ?_, ?_, ?_⟩
  · have e2 : ({ a.setW p.top.toNat (addS (a.wt p.top.toNat) p.sp) with by_ := addBy a.by_ txg p } : Al).wt i = if p.top.toNat = i then addS (a.wt p.top.toNat) p.sp else a.wt i := hff i
    simp only [e2]
    by_cases q : p.top.toNat = i
    · subst q
      rw [if_pos rfl]
      refine r2.congr fun n => ?_
      constructor
      · rintro (⟨q, h4, h5⟩ | h4)
        · exact ⟨q, List.mem_append_left _ h4, h5⟩
        · exact ⟨p, List.mem_append_right _ (List.mem_singleton.2 rfl), by omega, h4⟩
      · rintro ⟨q, h4, h5⟩
        rcases List.mem_append.1 h4 with h4 | h4
        · exact .inl ⟨q, h4, h5⟩
        · rw [List.mem_singleton.1 h4] at h5; exact .inr h5.2
    · rw [if_neg q]
      refine (h.wt i hi).congr fun n => ?_
      constructor
      · rintro ⟨q, h4, h5⟩; exact ⟨q, List.mem_append_left _ h4, h5⟩
      · rintro ⟨q, h4, h5⟩
        rcases List.mem_append.1 h4 with h4 | h4
        · exact ⟨q, h4, h5⟩
        · rw [List.mem_singleton.1 h4] at h5; exfalso; omega
  · refine (h.fr i hi).congr fun n => ?_
    constructor <;> rintro ⟨h4, h5⟩
    · exact ⟨h4, fun q hq => h5 q (hpm.mem_iff.1 hq)⟩
    · exact ⟨h4, fun q hq => h5 q (hpm.mem_iff.2 hq)⟩
  · have h5 := h.sumW
    have h7 := sumL_set a.waits p.top.toNat (addS (a.wt p.top.toNat) p.sp) (by rw [h.ok.nw]; exact ht)
    simp only [Al.setW, List.map_append, List.map_cons, List.map_nil, sumL_append, sumL]
    rw [h7, r3]
    simp only [Al.wt] at *
    omega
  · have h5 := h.sumF
    rw [sumL_perm (hpm.map fun p => p.sp.many)]; exact h5
/-- What waits is not held. -/
theorem Sc.not_held (h : Sc a H W) (hp : p ∈ W) : a.held p = false := by
  obtain ⟨h1, h2, h3⟩ := h.top p (List.mem_append_right _ hp)
  have ht : p.top.toNat < a.sizes.length := by omega
  have m1 := Sp.may_iff.1 h2
  rw [← Bool.not_eq_true, held_iff h.ok]
  rintro ⟨-, -, -, -, hw⟩
  exact ((h.wt _ ht).meets_not h2).1 hw p.sp.at_ (by simp only [Sp.has, Sp.fin]; omega) ⟨p, hp, by omega, by simp only [Sp.has, Sp.fin]; omega⟩
/-- What waited comes back. -/
theorem Sc.back (h : Sc a H (p :: W)) : Sc (a.back1 p) H W := by
  have hp : p ∈ H ++ p :: W := List.mem_append_right _ (List.mem_cons_self ..)
  obtain ⟨h1, h2, h3⟩ := h.top p hp
  have ht : p.top.toNat < a.sizes.length := by omega
  have hpm : (H ++ p :: W).Perm (p :: (H ++ W)) := List.perm_middle
  have hap := List.pairwise_cons.1 ((hpm.pairwise_iff fun h => h.symm).1 h.apart)
  obtain ⟨r1, r2, r3⟩ := (h.wt _ ht).rem (h.size _).2 h2 fun n hn => ⟨p, List.mem_cons_self .., by omega, hn⟩
  obtain ⟨s1, s2, s3⟩ := (h.fr _ ht).add (h.size _).2 h2 h3 fun n hn hq => hq.2 p hp (by omega) hn
  have hff := fun i => Al.fr_setF (a.setW p.top.toNat (remS (a.wt p.top.toNat) p.sp)) p.top.toNat i (addS (a.fr p.top.toNat) p.sp) (by show _ < a.free.length; rw [h.ok.nf]; exact ht)
  have hww := fun i => Al.wt_setW a p.top.toNat i (remS (a.wt p.top.toNat) p.sp) (by rw [h.ok.nw]; exact ht)
  refine ⟨Al.back1_ok h.ok p, h.sm, fun q hq => h.top q (hpm.mem_iff.2 (List.mem_cons_of_mem _ hq)), hap.2, fun i hi => ?_, fun i hi => ?_, ?_, ?_⟩
  · have e2 : (a.back1 p).wt i = if p.top.toNat = i then remS (a.wt p.top.toNat) p.sp else a.wt i := hww i
    rw [e2]
    by_cases q : p.top.toNat = i
    · subst q
      rw [if_pos rfl]
      refine r2.congr fun n => ?_
      constructor
      · rintro ⟨⟨q, h4, h5⟩, h6⟩
        rcases List.mem_cons.1 h4 with rfl | h4
        · exact absurd h5.2 h6
        · exact ⟨q, h4, h5⟩
      · rintro ⟨q, h4, h5⟩
        exact ⟨⟨q, List.mem_cons_of_mem _ h4, h5⟩, fun h6 => hap.1 q (List.mem_append_right _ h4) (by omega) n h6 h5.2⟩
    · rw [if_neg q]
      refine (h.wt i hi).congr fun n => ?_
      constructor
      · rintro ⟨q, h4, h5⟩
        rcases List.mem_cons.1 h4 with rfl | h4
        · exfalso; omega
        · exact ⟨q, h4, h5⟩
      · rintro ⟨q, h4, h5⟩; exact ⟨q, List.mem_cons_of_mem _ h4, h5⟩
  · have e2 : (a.back1 p).fr i = if p.top.toNat = i then addS (a.fr p.top.toNat) p.sp else a.fr i := hff i
    rw [e2]
    by_cases q : p.top.toNat = i
    · subst q
      rw [if_pos rfl]
      refine s2.congr fun n => ?_
      constructor
      · rintro (⟨h4, h5⟩ | h4)
        · exact ⟨h4, fun q hq => h5 q (hpm.mem_iff.2 (List.mem_cons_of_mem _ hq))⟩
        · have m1 := Sp.may_iff.1 h2
          refine ⟨?_, fun q hq e => hap.1 q hq (by omega) n h4⟩
          show 0 ≤ n ∧ n < a.size p.top.toNat
          simp only [Sp.has] at h4; omega
      · rintro ⟨h4, h5⟩
        by_cases c : p.sp.has n
        · exact .inr c
        · refine .inl ⟨h4, fun q hq => ?_⟩
          rcases List.mem_cons.1 (hpm.mem_iff.1 hq) with rfl | hq
          · exact fun _ => c
          · exact h5 q hq
    · rw [if_neg q]
      refine (h.fr i hi).congr fun n => ?_
      constructor
      · rintro ⟨h4, h5⟩
        exact ⟨h4, fun q hq => h5 q (hpm.mem_iff.2 (List.mem_cons_of_mem _ hq))⟩
      · rintro ⟨h4, h5⟩
        refine ⟨h4, fun z hz => ?_⟩
        rcases List.mem_cons.1 (hpm.mem_iff.1 hz) with rfl | hz
        · intro e; exfalso; omega
        · exact h5 z hz
  · have h5 := h.sumW
    have h7 := sumL_set a.waits p.top.toNat (remS (a.wt p.top.toNat) p.sp) (by rw [h.ok.nw]; exact ht)
    simp only [List.map_cons, sumL] at h5
    show sumL ((a.waits.set p.top.toNat (remS (a.wt p.top.toNat) p.sp)).map manyL) = _
    rw [h7, r3]
    simp only [Al.wt] at *
    omega
  · have h5 := h.sumF
    have h6 := sumL_perm (hpm.map fun p => p.sp.many)
    have h7 := sumL_set a.free p.top.toNat (addS (a.fr p.top.toNat) p.sp) (by rw [h.ok.nf]; exact ht)
    simp only [List.map_cons, sumL] at h6
    show sumL ((a.free.set p.top.toNat (addS (a.fr p.top.toNat) p.sp)).map manyL) + _ = sumL a.sizes
    rw [h7, s3]
    simp only [Al.fr] at *
    omega
theorem Sc.backs : ∀ {L : List Pl} {a : Al}, Sc a H (L ++ W) → Sc (a.backs L) H W
  | [], _, h => h
  | p :: r, _, h => Sc.backs (L := r) (Sc.back h)
end
end Go.Sl
