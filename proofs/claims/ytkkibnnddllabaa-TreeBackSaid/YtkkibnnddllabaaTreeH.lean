/-
  Objects as blocks, plain: there and back.
-/
import Derived.Test.YtkkibnnddllabaaTreeG
namespace Go.Sl
section
variable {α β : Type} {f : α → List β} {k : Nat}
theorem fl_length (hf : ∀ a, (f a).length = k) : ∀ l : List α, (l.flatMap f).length = l.length * k
  | [] => by simp
  | x :: r => by rw [List.flatMap_cons, List.length_append, hf, fl_length hf r, List.length_cons, Nat.succ_mul, Nat.add_comm]
theorem fl_piece (hf : ∀ a, (f a).length = k) : ∀ (l : List α) (i : Nat) (h : i < l.length), ((l.flatMap f).drop (i * k)).take k = f l[i]
  | x :: r, 0, _ => by rw [Nat.zero_mul, List.drop_zero, List.flatMap_cons, List.take_left' (hf x)]; rfl
  | x :: r, i + 1, h => by
    rw [List.flatMap_cons, Nat.succ_mul, Nat.add_comm, ← List.drop_drop, List.drop_left' (hf x)]
    exact fl_piece hf r i (by simpa using h)
theorem chop_fl (hk : 0 < k) (hf : ∀ a, (f a).length = k) (l : List α) : chop k (l.flatMap f) = l.map f := by
  have hn : nch (l.flatMap f).length k = l.length := nch_eq (by rw [fl_length hf]; omega) (by rw [fl_length hf]; omega)
  apply List.ext_getElem
  · rw [chop_length, hn, List.length_map]
  · intro i h1 h2
    rw [chop_at h1, List.getElem_map, fl_piece hf]
end
theorem map_same {α β : Type} (g : α → β) (f : β → α) : ∀ l : List α, (∀ a ∈ l, f (g a) = a) → (l.map g).map f = l
  | [], _ => rfl
  | x :: r, h => by rw [List.map_cons, List.map_cons, h x (by simp), map_same g f r fun a ha => h a (by simp [ha])]
theorem encs_chop (P : List Pt) : chop 64 (encs P) = P.map ptenc := by
  unfold encs
  exact chop_fl (f := ptenc) (k := 64) (by omega) ptenc_length P
theorem unp_encs {P : List Pt} (h0 : P ≠ []) (h16 : P.length ≤ 16) (hg : ∀ p ∈ P, ptE p = 0) (ho : ∀ p ∈ P, p.Ok) : unpE (encs P) = 0 ∧ unpL (encs P) = P := by
  have hl := encs_length P
  have hp : 0 < P.length := List.length_pos_iff.2 h0
  have h1 := unp_good (b := encs P) (by omega) (by
    rw [encs_chop]; intro x hx
    obtain ⟨p, hp, rfl⟩ := List.mem_map.1 hx
    exact (ptdec_enc (hg p hp) (ho p hp)).1)
  refine ⟨h1.1, h1.2.trans ?_⟩
  rw [encs_chop]
  exact map_same ptenc ptdec P fun p hp => (ptdec_enc (hg p hp) (ho p hp)).2
theorem ptdec_zeros : ptdec (List.replicate 64 0) = ptZero := by decide +kernel
theorem rep_mem {x : List UInt8} {n : Nat} (h : x = List.replicate n 0) {y : List UInt8} (hs : y.Sublist x) : y = List.replicate y.length 0 := by
  apply List.eq_replicate_iff.2
  refine ⟨rfl, fun b hb => ?_⟩
  have := hs.subset hb
  rw [h] at this
  exact (List.mem_replicate.1 this).2
theorem encs_blank {P : List Pt} (hg : ∀ p ∈ P, ptE p = 0) (ho : ∀ p ∈ P, p.Ok) (h : (thinB (encs P)).length = 0) : P = List.replicate P.length ptZero := by
  have hz : encs P = List.replicate (encs P).length 0 := by
    by_cases c : encs P = List.replicate (encs P).length 0
    · exact c
    · have : thinB (encs P) = encs P := by unfold thinB; rw [if_neg c]
      rw [this] at h
      have h2 := List.eq_nil_of_length_eq_zero h
      rw [h2]; rfl
  apply List.eq_replicate_iff.2
  refine ⟨rfl, fun p hp => ?_⟩
  have h1 := rep_mem hz (y := ptenc p) (by
    have hm : ptenc p ∈ P.map ptenc := List.mem_map.2 ⟨p, hp, rfl⟩
    have := List.sublist_flatten_of_mem hm
    simpa [encs, List.flatMap] using this)
  rw [ptenc_length] at h1
  have h2 := (ptdec_enc (hg p hp) (ho p hp)).2
  rw [h1, ptdec_zeros] at h2
  exact h2.symm
theorem thin_blank {x : List UInt8} (h : (thinB x).length = 0) : x = List.replicate x.length 0 := by
  by_cases c : x = List.replicate x.length 0
  · exact c
  · have : thinB x = x := by unfold thinB; rw [if_neg c]
    rw [this] at h
    rw [List.eq_nil_of_length_eq_zero h]; rfl
theorem thin_full {x : List UInt8} (h : (thinB x).length ≠ 0) : thinB x = x := by
  by_cases c : x = List.replicate x.length 0
  · unfold thinB at h; rw [if_pos c] at h; exact absurd rfl h
  · unfold thinB; rw [if_neg c]

theorem tab_chop (l : List Slt) : chop 72 (tabB l) = l.map sltB := by
  unfold tabB
  exact chop_fl (f := sltB) (k := 72) (by omega) sltB_length l
theorem slt_back {s : Slt} (hm : maySB s = true) (ho : s.Ok) : slotOk (sltB s) = true ∧ sltAt (sltB s) = s := by
  have hr := maySB_root hm
  have hsz := maySB_size hm
  obtain ⟨n, hn⟩ : ∃ n : Nat, s.size = n := ⟨s.size.toNat, by omega⟩
  obtain ⟨d1, d2⟩ := ptdec_enc hr ho.root
  have hB : sltB s = formOf (if s.used then 1 else 0) 1 ++ (List.replicate 3 0 ++ (formOf n 4 ++ (ptenc s.root ++ []))) := by simp [sltB, hn, List.append_assoc]
  have hd : ((sltB s).drop 8).take 64 = ptenc s.root := by
    rw [hB, ← List.append_assoc, ← List.append_assoc, List.drop_left' (by simp [formOf_length]), List.append_nil, List.take_of_length_le (by rw [ptenc_length]; omega)]
  have h0 : nm (sltB s) 0 1 = if s.used then 1 else 0 := by
    have := nm_form [] (List.replicate 3 0 ++ (formOf n 4 ++ (ptenc s.root ++ []))) (if s.used then 1 else 0) (q := 0) (k := 1) rfl (by split <;> decide)
    rw [List.nil_append, ← hB] at this; exact this
  have h4 : nm (sltB s) 4 4 = n := by
    have := nm_form (formOf (if s.used then 1 else 0) 1 ++ List.replicate 3 0) (ptenc s.root ++ []) n (q := 4) (k := 4) (by simp [formOf_length]) (by omega)
    rw [List.append_assoc, ← hB] at this; exact this
  have h3 : ((sltB s).drop 1).take 3 = List.replicate 3 0 := by
    rw [hB, List.drop_left' (by simp [formOf_length]), List.take_left' (by simp)]
  have hz := (three_zero (sltB s) (by rw [sltB_length]; omega)).1 h3
  have hat : sltAt (sltB s) = s := by
    rw [sltAt, h0, h4, hd, d2, ← hn]
    cases s with | mk u z r => cases u <;> rfl
  refine ⟨?_, hat⟩
  simp only [slotOk, decide_eq_true_eq]
  rw [hat, hd, h0]
  exact ⟨d1, hm, by split <;> omega, hz⟩
theorem slts_tab {l : List Slt} (hl : l.length ≤ 112) (hg : ∀ s ∈ l, maySB s = true) (ho : ∀ s ∈ l, s.Ok) : sltsE (tabB l) = 0 ∧ sltsL (tabB l) = l := by
  have ht := tabB_length l
  have h1 := slts_good (b := tabB l) (by omega) (by
    rw [tab_chop]; intro x hx
    obtain ⟨s, hs, rfl⟩ := List.mem_map.1 hx
    exact (slt_back (hg s hs) (ho s hs)).1)
  refine ⟨h1.1, h1.2.trans ?_⟩
  rw [tab_chop]
  exact map_same sltB sltAt l fun s hs => (slt_back (hg s hs) (ho s hs)).2
theorem tab_ok {l : List Slt} (h : tabE l = 0) (ho : ∀ s ∈ l, s.Ok) : sltsE (tabL l) = 0 ∧ sltsL (tabL l) = l := by
  unfold tabE at h
  split at h
  · cases h
  · split at h
    · rename_i c1 c2
      rw [(tab_good (by omega) c2).2]
      exact slts_tab (by omega) c2 ho
    · cases h
theorem pack_ok {l : List Pt} (h : packE l = 0) : l.length ≤ 4096 ∧ (∀ p ∈ l, ptE p = 0) ∧ packL l = ((chop 16 l).map encs).map thinB := by
  have h0 := h
  unfold packE at h
  split at h
  · cases h
  · split at h
    · rename_i c1 c2
      exact ⟨by omega, c2, (pack_good (by omega) c2).2⟩
    · cases h
end Go.Sl
