/-
  Texts put together (8).
-/
import Derived.Test.YtidhehcjafoneaaGreatDoorZMirrorAlone7
namespace Go.Sl
theorem zHo (l : List Tp) {i : Nat} (hi : i < l.length) : (l.take (i + 1)).flatMap tpB = (l.take i).flatMap tpB ++ tpB l[i] := by
  rw [← List.take_append_getElem hi, List.flatMap_append]; simp
theorem zLm {l : Lbl} (h : l.half) (hm : ∀ t ∈ l.tops, t.made) : l.place ≤ 5 := by
  obtain ⟨m1, m2, m3, m4, m5, m6⟩ := h
  have : l.top.toNat < l.tops.length := by omega
  have hmem : l.tops.getD l.top.toNat zIf ∈ l.tops := by simp [List.getD, this]
  have := hm _ hmem
  unfold Tp.made at this
  omega
def lbP (l : Lbl) : List UInt8 := if lbE l = 0 then zGo (lbB l) else []
theorem lbP_ok {u : Lbl} (h : lbE u = 0) : lbP u = zGo (lbB u) := by simp [lbP, h]
theorem lbP_no {u : Lbl} (h : lbE u ≠ 0) : lbP u = [] := by simp [lbP, h]
theorem lbO_ok {u : Lbl} (h : lbE u = 0) : lbO u = whole (lbB u) := by simp [lbO, h]
theorem lbO_no {u : Lbl} (h : lbE u ≠ 0) : lbO u = [] := by simp [lbO, h]
theorem zKf {u : Lbl} (h : lbE u = 0) : (lbB u).length ≤ 39 := by rw [lbB_length]; have := ((zHd u).1 h).1.2.1; omega
end Go.Sl
namespace Go.Proofs.YtidhehcjafoneaaGreatDoor
open Go.Sl
set_option maxRecDepth 10000
theorem laylb_ret (p room : Nat) (A O : zAs) (v : Value) (l : Lbl) (hO : Rd O 3 v l.tops.length (l.tops.flatMap Tp.lay)) (ho : l.Ok) (hm : lbE l = 0) (w0 : World) (hA : WrC 186 p ⟨room, [], 0⟩ A) (H : Hp w0 [A, O]) (hr : room ≤ 140737488355328) (hl : 39 ≤ room) :
    Ret Tryz.prog 79 #[ptr p, lbagg l v] w0 fun _ w' => ∃ A', WrC 186 p ⟨room, lbB l, 0⟩ A' ∧ Trs w0 w' [A, O] [A', O] := by
  have S := St.begin H
  have e1 := p1
  have e4 := p4
  have e8 := p8
  have o1 := ho.pool
  have hl4 : lLet.length = 4 := rfl
  obtain ⟨hh, hmm⟩ := (zHd l).1 hm
  have hpl := zLm hh hmm
  obtain ⟨m1, m2, m3, m4, m5, m6⟩ := hh
  obtain ⟨tn, htn⟩ : ∃ n : Nat, l.top = n := ⟨l.top.toNat, by omega⟩
  obtain ⟨pn, hpn⟩ : ∃ n : Nat, l.place = n := ⟨l.place.toNat, by omega⟩
  obtain ⟨ad, c, rfl⟩ := hO.slice
  obtain ⟨g, off, rfl⟩ := hO.addr (by omega)
  have hH : lbH l = lLet ++ zCv l.pool 8 ++ zCv tn 1 ++ zCv pn 1 ++ zCv l.tops.length 1 := by simp [lbH, htn, hpn]
  have hHl := zHk l
  refine zCy 53 Tryz.func79 rfl rfl (by decide) ?_; intro a E
  refine wp_seq_k ?_; intro K hK
  refine zAc ?_
  refine zAo rfl (zCs E S rfl rfl (by decide) rfl rfl ?_); clear E S a; intro a w b3 E S
  refine wpList_nil ?_
  refine zAh hK ?_; clear hK; clear K
  refine wp_seq_k ?_; intro K hK
  refine zAc ?_
  refine zp E (zAe E rfl rfl) ?_; clear E a; intro a E
  refine zAo rfl (zCk (cells := [_, _, _, _]) E S rfl rfl (by decide) rfl rfl rfl rfl rfl (by decide) rfl ?_); clear E S a; intro a w b7 E S
  refine zAo rfl (wp_mark E S rfl rfl rfl (by decide) rfl rfl rfl (by repeat (first | exact pk1 | apply zAa)) ?_); clear E S a; intro a w E S
  refine zAr E rfl rfl (by decide) rfl Tryz.func91 rfl (by kernel_rfl) rfl (bytes_fit p room [] A _ _ hA _ lLet (rd_mark (g := b7) lLet (by omega)) (S.hp.sel (zAd pk3 (zAd pk1 (zAk _)))) hr (by simp only [List.length_nil]; omega)) ?_
  rintro v9 w ⟨A1, hA1, hT⟩; clear E a; intro a E
  have S := S.call2 (zAd pk3 (zAd pk1 (zAk _))) hT; rw [List.nil_append] at hA1
  refine wpList_nil ?_
  refine zAh hK ?_; clear hK; clear K
  refine wp_seq_k ?_; intro K hK
  refine zAc ?_
  refine zp E (zAe E rfl rfl) ?_; clear E a; intro a E
  refine zp E (by first | exact zAf (q := 0) E rfl rfl rfl | exact zAi (q := 0) E rfl rfl rfl) ?_; clear E a; intro a E
  refine zp E (by first | exact zAn E rfl rfl rfl (S.get (by repeat (first | exact pk1 | apply zAa))) rfl | exact zAj E rfl rfl rfl (by assumption)) ?_; clear E a; intro a E
  refine zAr E rfl rfl (by decide) rfl Tryz.func98 rfl (by kernel_rfl) rfl (zHc p room _ A1 _ hA1 l.pool 8 (S.hp.sel (zAd (by repeat (first | exact pk1 | apply zAa)) (zAk _))) hr (by omega) (by omega) (by omega) (by omega)) ?_
  rintro v13 w ⟨A2, hA2, hT⟩; clear E a; intro a E
  have S := S.call1 (zAd (by repeat (first | exact pk1 | apply zAa)) (zAk _)) hT
  refine wpList_nil ?_
  refine zAh hK ?_; clear hK; clear K
  refine wp_seq_k ?_; intro K hK
  refine zAc ?_
  refine zp E (zAe E rfl rfl) ?_; clear E a; intro a E
  refine zp E (by first | exact zAf (q := 2) E rfl rfl rfl | exact zAi (q := 2) E rfl rfl rfl) ?_; clear E a; intro a E
  refine zp E (by first | exact zAn E rfl rfl rfl (S.get (by repeat (first | exact pk1 | apply zAa))) rfl | exact zAj E rfl rfl rfl (by assumption)) ?_; clear E a; intro a E
  rw [htn] at E
  refine zp E (by first | exact zBv E rfl rfl rfl rfl (by first | exact wu8 _ | exact zHs (by omega) | exact zFa (by omega) | exact w_in (by omega) | exact zBy (by omega) | exact rfl) | exact zDe E rfl rfl rfl rfl rfl (by assumption) (S.stab.at (by simp))) ?_; clear E a; intro a E
  refine zAr E rfl rfl (by decide) rfl Tryz.func98 rfl (by kernel_rfl) rfl (zHc p room _ A2 _ hA2 tn 1 (S.hp.sel (zAd (by repeat (first | exact pk1 | apply zAa)) (zAk _))) hr (by omega) (by omega) (by omega) (by simp only [List.length_append, zBz]; omega)) ?_
  rintro v18 w ⟨A3, hA3, hT⟩; clear E a; intro a E
  have S := S.call1 (zAd (by repeat (first | exact pk1 | apply zAa)) (zAk _)) hT
  refine wpList_nil ?_
  refine zAh hK ?_; clear hK; clear K
  refine wp_seq_k ?_; intro K hK
  refine zAc ?_
  refine zp E (zAe E rfl rfl) ?_; clear E a; intro a E
  refine zp E (by first | exact zAf (q := 3) E rfl rfl rfl | exact zAi (q := 3) E rfl rfl rfl) ?_; clear E a; intro a E
  refine zp E (by first | exact zAn E rfl rfl rfl (S.get (by repeat (first | exact pk1 | apply zAa))) rfl | exact zAj E rfl rfl rfl (by assumption)) ?_; clear E a; intro a E
  rw [hpn] at E
  refine zp E (by first | exact zBv E rfl rfl rfl rfl (by first | exact wu8 _ | exact zHs (by omega) | exact zFa (by omega) | exact w_in (by omega) | exact zBy (by omega) | exact rfl) | exact zDe E rfl rfl rfl rfl rfl (by assumption) (S.stab.at (by simp))) ?_; clear E a; intro a E
  refine zAr E rfl rfl (by decide) rfl Tryz.func98 rfl (by kernel_rfl) rfl (zHc p room _ A3 _ hA3 pn 1 (S.hp.sel (zAd (by repeat (first | exact pk1 | apply zAa)) (zAk _))) hr (by omega) (by omega) (by omega) (by simp only [List.length_append, zBz]; omega)) ?_
  rintro v23 w ⟨A4, hA4, hT⟩; clear E a; intro a E
  have S := S.call1 (zAd (by repeat (first | exact pk1 | apply zAa)) (zAk _)) hT
  refine wpList_nil ?_
  refine zAh hK ?_; clear hK; clear K
  refine wp_seq_k ?_; intro K hK
  refine zAc ?_
  refine zp E (zAe E rfl rfl) ?_; clear E a; intro a E
  refine zp E (by first | exact zAf (q := 1) E rfl rfl rfl | exact zAi (q := 1) E rfl rfl rfl) ?_; clear E a; intro a E
  refine zp E (by first | exact zAn E rfl rfl rfl (S.get (by repeat (first | exact pk1 | apply zAa))) rfl | exact zAj E rfl rfl rfl (by assumption)) ?_; clear E a; intro a E
  refine zp E (by first | exact zCa E rfl rfl rfl | exact zBa E rfl rfl rfl | exact zAt E rfl rfl rfl) ?_; clear E a; intro a E
  refine zp E (by first | exact zBv E rfl rfl rfl rfl (by first | exact wu8 _ | exact zHs (by omega) | exact zFa (by omega) | exact w_in (by omega) | exact zBy (by omega) | exact rfl) | exact zDe E rfl rfl rfl rfl rfl (by assumption) (S.stab.at (by simp))) ?_; clear E a; intro a E
  refine zAr E rfl rfl (by decide) rfl Tryz.func98 rfl (by kernel_rfl) rfl (zHc p room _ A4 _ hA4 l.tops.length 1 (S.hp.sel (zAd (by repeat (first | exact pk1 | apply zAa)) (zAk _))) hr (by omega) (by omega) (by omega) (by simp only [List.length_append, zBz]; omega)) ?_
  rintro v29 w ⟨A5, hA5, hT⟩; clear E a; intro a E
  have S := S.call1 (zAd (by repeat (first | exact pk1 | apply zAa)) (zAk _)) hT; rw [← hH] at hA5
  refine wpList_nil ?_
  refine zAh hK ?_; clear hK; clear K
  refine wp_seq_k ?_; intro K hK
  replace E := E.keep (e' := [(0, _), (3, _)]) (zAb rfl (zAb rfl (zAp)))
  refine zAc ?_
  refine zp E (by first | exact zAf (q := 1) E rfl rfl rfl | exact zAi (q := 1) E rfl rfl rfl) ?_; clear E a; intro a E
  refine zp E (by first | exact zAn E rfl rfl rfl (S.get (by repeat (first | exact pk1 | apply zAa))) rfl | exact zAj E rfl rfl rfl (by assumption)) ?_; clear E a; intro a E
  refine zp E (by first | exact zCa E rfl rfl rfl | exact zBa E rfl rfl rfl | exact zAt E rfl rfl rfl) ?_; clear E a; intro a E
  refine zp E (zAe E rfl rfl) ?_; clear E a; intro a E
  refine wpList_nil ?_
  refine zAh hK ?_; clear hK; clear K
  refine wp_block ?_
  refine wp_loop_ghost (fun (m : Nat) (a : Act) (w' : World) => ∃ (i : Nat) (A' : zAs), m = l.tops.length - i ∧ i ≤ l.tops.length ∧ WrC 186 p ⟨room, lbH l ++ (l.tops.take i).flatMap tpB, 0⟩ A' ∧ (∃ Ls, St w0 [A, O] w' (A' :: O :: Ls)) ∧ Fr a 53 [(0, ptr p), (31, .slice (some ⟨g, off, none⟩) l.tops.length c), (32, .int .i64 l.tops.length), (33, .int .i64 i)]) (l.tops.length - 0) ?_ ?_
  · exact ⟨0, A5, rfl, by omega, by simpa using hA5, ⟨_, S.front2 (by repeat (first | exact pk1 | apply zAa)) (B := O) (by repeat (first | exact pk1 | apply zAa))⟩, E.keep (zAb rfl (zAb rfl (zAb rfl (zAb rfl zAp))))⟩
  clear E; clear a; (try clear S); rintro m a w ⟨i, A', rfl, hi, hA', ⟨Ls, S⟩, E⟩
  refine wp_seq_k ?_; intro K hK
  refine zAc ?_
  refine zp E (zCb E rfl rfl rfl) ?_; clear E a; intro a E
  refine wpList_nil ?_
  refine zAh hK ?_; clear hK; clear K
  refine wp_seq_k ?_; intro K hK
  refine zBl E rfl (fun hb => ?_) (fun hb => ?_)
  · replace hb := Nrm.nrm hb
    refine wp_skip ?_
    refine zAh hK ?_; clear hK; clear K
    refine wp_seq_k ?_; intro K hK
    refine wp_block ?_
    refine wp_seq_k ?_; intro K hK
    have hib : i < l.tops.length := by omega
    have hmd := hmm _ (List.getElem_mem hib)
    obtain ⟨t, ht⟩ : ∃ t, t = l.tops[i] := ⟨_, rfl⟩
    have hst := zHo l.tops hib
    rw [← ht] at hmd hst
    have htl := zJk (l.tops.take i)
    rw [List.length_take, Nat.min_eq_left (by omega)] at htl
    unfold Tp.made at hmd
    obtain ⟨kn, hkn⟩ : ∃ n : Nat, t.kind = n := ⟨t.kind.toNat, by omega⟩
    obtain ⟨vn, hvn⟩ : ∃ n : Nat, t.leaves = n := ⟨t.leaves.toNat, by omega⟩
    obtain ⟨sn, hsn⟩ : ∃ n : Nat, t.sectors = n := ⟨t.sectors.toNat, by omega⟩
    have hB : tpB t = zCv kn 1 ++ zCv vn 1 ++ zCv sn 4 := by simp [tpB, hkn, hvn, hsn]
    refine zAc ?_
    refine zp E (by first | exact zBk E rfl rfl rfl rfl rfl rfl (by omega) | exact zBn E rfl rfl rfl rfl rfl rfl (by omega) | exact zAx E rfl rfl rfl rfl rfl rfl (by omega)) ?_; clear E a; intro a E
    refine zp E (zDo (vs := [_, _, _]) E rfl rfl rfl rfl (hO.elem (lay := Tp.lay) Tp.lay_len (S.stab.at (by repeat (first | exact mm1 | assumption | apply List.Mem.tail))) (i := i) hib)) ?_; clear E a; intro a E
    rw [← ht, hkn, hvn, hsn] at E
    refine zAo rfl (zCc E S rfl rfl (by decide) rfl rfl rfl ?_); clear E S a; intro a w b5 E S
    refine zAo rfl (zCg E S rfl rfl rfl rfl (by simp [Value.oneCell']) rfl (by repeat (first | exact pk1 | apply zAa)) (by simp) ?_); clear E S a; intro a w E S; simp only [List.take_succ_cons, List.take_zero, List.drop_succ_cons, List.drop_zero, List.cons_append, List.nil_append, List.append_nil, List.length_cons, List.length_nil, Nat.zero_add, Nat.add_zero] at S
    refine wpList_nil ?_
    refine zAh hK ?_; clear hK; clear K
    refine wp_seq_k ?_; intro K hK
    refine zAc ?_
    refine zp E (zAe E rfl rfl) ?_; clear E a; intro a E
    refine zp E (by first | exact zAf (q := 0) E rfl rfl rfl | exact zAi (q := 0) E rfl rfl rfl) ?_; clear E a; intro a E
    refine zp E (by first | exact zAn E rfl rfl rfl (S.get (by repeat (first | exact pk1 | apply zAa))) rfl | exact zAj E rfl rfl rfl (by assumption)) ?_; clear E a; intro a E
    refine zp E (by first | exact zBv E rfl rfl rfl rfl (by first | exact wu8 _ | exact zHs (by omega) | exact zFa (by omega) | exact w_in (by omega) | exact zBy (by omega) | exact rfl) | exact zDe E rfl rfl rfl rfl rfl (by assumption) (S.stab.at (by simp))) ?_; clear E a; intro a E
    refine zAr E rfl rfl (by decide) rfl Tryz.func98 rfl (by kernel_rfl) rfl (zHc p room _ A' _ hA' kn 1 (S.hp.sel (zAd (by repeat (first | exact pk1 | apply zAa)) (zAk _))) hr (by omega) (by omega) (by omega) (by simp only [List.length_append, zBz]; omega)) ?_
    rintro v41 w ⟨B1, hB1, hT⟩; clear E a; intro a E
    have S := S.call1 (zAd (by repeat (first | exact pk1 | apply zAa)) (zAk _)) hT
    refine wpList_nil ?_
    refine zAh hK ?_; clear hK; clear K
    refine wp_seq_k ?_; intro K hK
    refine zAc ?_
    refine zp E (zAe E rfl rfl) ?_; clear E a; intro a E
    refine zp E (by first | exact zAf (q := 1) E rfl rfl rfl | exact zAi (q := 1) E rfl rfl rfl) ?_; clear E a; intro a E
    refine zp E (by first | exact zAn E rfl rfl rfl (S.get (by repeat (first | exact pk1 | apply zAa))) rfl | exact zAj E rfl rfl rfl (by assumption)) ?_; clear E a; intro a E
    refine zp E (by first | exact zBv E rfl rfl rfl rfl (by first | exact wu8 _ | exact zHs (by omega) | exact zFa (by omega) | exact w_in (by omega) | exact zBy (by omega) | exact rfl) | exact zDe E rfl rfl rfl rfl rfl (by assumption) (S.stab.at (by simp))) ?_; clear E a; intro a E
    refine zAr E rfl rfl (by decide) rfl Tryz.func98 rfl (by kernel_rfl) rfl (zHc p room _ B1 _ hB1 vn 1 (S.hp.sel (zAd (by repeat (first | exact pk1 | apply zAa)) (zAk _))) hr (by omega) (by omega) (by omega) (by simp only [List.length_append, zBz]; omega)) ?_
    rintro v46 w ⟨B2, hB2, hT⟩; clear E a; intro a E
    have S := S.call1 (zAd (by repeat (first | exact pk1 | apply zAa)) (zAk _)) hT
    refine wpList_nil ?_
    refine zAh hK ?_; clear hK; clear K
    refine zAc ?_
    refine zp E (zAe E rfl rfl) ?_; clear E a; intro a E
    refine zp E (by first | exact zAf (q := 2) E rfl rfl rfl | exact zAi (q := 2) E rfl rfl rfl) ?_; clear E a; intro a E
    refine zp E (by first | exact zAn E rfl rfl rfl (S.get (by repeat (first | exact pk1 | apply zAa))) rfl | exact zAj E rfl rfl rfl (by assumption)) ?_; clear E a; intro a E
    refine zp E (by first | exact zBv E rfl rfl rfl rfl (by first | exact wu8 _ | exact zHs (by omega) | exact zFa (by omega) | exact w_in (by omega) | exact zBy (by omega) | exact rfl) | exact zDe E rfl rfl rfl rfl rfl (by assumption) (S.stab.at (by simp))) ?_; clear E a; intro a E
    refine zAr E rfl rfl (by decide) rfl Tryz.func98 rfl (by kernel_rfl) rfl (zHc p room _ B2 _ hB2 sn 4 (S.hp.sel (zAd (by repeat (first | exact pk1 | apply zAa)) (zAk _))) hr (by omega) (by omega) (by omega) (by simp only [List.length_append, zBz]; omega)) ?_
    rintro v51 w ⟨B3, hB3, hT⟩; clear E a; intro a E
    have S := S.call1 (zAd (by repeat (first | exact pk1 | apply zAa)) (zAk _)) hT
    refine wpList_nil ?_
    refine zBf ?_
    refine zAh hK ?_; clear hK; clear K
    refine zAc ?_
    refine zp E (zBu E rfl rfl rfl (by first | exact zCj (y := 1) (by omega) | exact w_in (by omega) | exact zBy (by omega) | exact rfl)) ?_; clear E a; intro a E
    refine zp E (zAe E rfl rfl) ?_; clear E a; intro a E
    refine wpList_nil ?_
    refine zBe ?_
    exact ⟨_, by omega, i + 1, B3, rfl, by omega, by rw [hst, hB]; simpa using hB3, ⟨_, S.front2 (by repeat (first | exact pk1 | apply zAa)) (B := O) (by repeat (first | exact pk1 | apply zAa))⟩, E.keep (zAb rfl (zAb rfl (zAb rfl (zAb rfl zAp))))⟩
  · replace hb := Nrm.nrm hb
    refine wp_exit ?_
    refine zBb ?_; clear hK; clear K
    refine zBb ?_
    refine zCm ?_
    refine end0 E rfl ?_
    obtain rfl : i = l.tops.length := by omega
    rw [List.take_length] at hA'
    exact ⟨_, rfl, A', hA', (S.only (Bs := [A', O]) (zAd (by repeat (first | exact pk1 | apply zAa)) (zAd (by repeat (first | exact pk1 | apply zAa)) (zAk _)))).tr⟩
theorem laidlb_ret (O : zAs) (v : Value) (l : Lbl) (hO : Rd O 3 v l.tops.length (l.tops.flatMap Tp.lay)) (ho : l.Ok) (w0 : World) (H : Hp w0 [O]) :
    Ret Tryz.prog 77 #[lbagg l v, .func (.func 78) #[] #[], .int .i64 96, .func (.func 79) #[] #[]] w0 fun u w' => ∃ v C, u = .tuple #[v, .int .i64 (lbE l)] ∧ Buf C 5 1 v (lbP l).length (byt (lbP l)) ∧ Trs w0 w' [O] [C, O] := by
  have S := St.begin H
  refine enter4 31 Tryz.func77 rfl rfl (by decide) ?_; intro a E
  refine wp_seq_k ?_; intro K hK
  refine zAc ?_
  refine zAo rfl (zCs E S rfl rfl (by decide) rfl rfl ?_); clear E S a; intro a w b4 E S
  iterate 2 (refine zp E (zAg E rfl rfl) ?_; clear E a; intro a E)
  refine wpList_nil ?_
  refine zAh hK ?_; clear hK; clear K
  iterate 2 (refine wp_seq_k ?_; intro K hK)
  refine zAc ?_
  refine zp E (zAe E rfl rfl) ?_; clear E a; intro a E
  refine zp E (zBw (vs := [_, _, _, _]) E rfl rfl rfl (S.get (by repeat (first | exact pk1 | apply zAa))) rfl rfl) ?_; clear E a; intro a E
  refine zDu E rfl rfl (by decide) rfl rfl Tryz.func78 rfl (by kernel_rfl) rfl (lbcheck_ret O v l hO _ (S.hp.sel (zAd (by repeat (first | exact pk1 | apply zAa)) (zAk _)))) ?_
  rintro v14 w ⟨rfl, hT⟩; clear E a; intro a E
  have S := S.call1 (zAd (by repeat (first | exact pk1 | apply zAa)) (zAk _)) hT
  refine zp E (zAg E rfl rfl) ?_; clear E a; intro a E
  refine wpList_nil ?_
  refine zAh hK ?_; clear hK; clear K
  refine wp_seq_k ?_; intro K hK
  refine zAc ?_
  refine zp E (zAe E rfl rfl) ?_; clear E a; intro a E
  refine zp E (by first | exact zCu E rfl rfl rfl | exact zAz E rfl rfl rfl rfl | exact zBj E rfl rfl rfl rfl | exact zBd E rfl rfl rfl) ?_; clear E a; intro a E
  refine wpList_nil ?_
  refine zAh hK ?_; clear hK; clear K
  refine zBl E rfl (fun hb => ?_) (fun hb => ?_)
  · replace hb := Nrm.nrm hb
    refine wp_seq_k ?_; intro K hK
    refine zAc ?_
    refine zp E (zAe E rfl rfl) ?_; clear E a; intro a E
    iterate 2 (refine zp E (zAg E rfl rfl) ?_; clear E a; intro a E)
    refine wpList_nil ?_
    refine zAh hK ?_; clear hK; clear K
    refine wp_ret ?_
    refine zBi ?_; clear hK; clear K
    refine ret2 E rfl rfl rfl ?_
    exact ⟨_, rfl, _, [], rfl, by rw [lbP_no hb]; exact Buf.nil _ _, by have h := (S.addNil.only (Bs := [[], O]) (zAd (by repeat (first | exact pk1 | apply zAa)) (zAd (by repeat (first | exact pk1 | apply zAa)) (zAk _)))).tr; exact h⟩
  · replace hb := Nrm.nrm hb
    refine wp_skip ?_
    refine zAh hK ?_; clear hK; clear K
    refine wp_seq_k ?_; intro K hK
    have hpe := hb
    have hsm := zKf hb
    have hp96 : (zGo (lbB l)).length = 96 := zFz (by omega)
    refine zAc ?_
    refine zp E (zAe E rfl rfl) ?_; clear E a; intro a E
    refine zAr E rfl rfl (by decide) rfl Tryz.func90 rfl (by kernel_rfl) rfl (zLj 96 _) ?_
    rintro v19 w ⟨p, A, rfl, hA, hT⟩; clear E a; intro a E
    have S := S.fresh hT; have hA : WrC 186 p ⟨96, [], 0⟩ A := hA
    refine zp E (zAg E rfl rfl) ?_; clear E a; intro a E
    refine wpList_nil ?_
    refine zAh hK ?_; clear hK; clear K
    refine wp_seq_k ?_; intro K hK
    refine zAc ?_
    iterate 2 (refine zp E (zAe E rfl rfl) ?_; clear E a; intro a E)
    refine zp E (zBw (vs := [_, _, _, _]) E rfl rfl rfl (S.get (by repeat (first | exact pk1 | apply zAa))) rfl rfl) ?_; clear E a; intro a E
    refine zDu E rfl rfl (by decide) rfl rfl Tryz.func79 rfl (by kernel_rfl) rfl (laylb_ret p 96 A O v l hO ho hpe _ hA (S.hp.sel (zAd (by repeat (first | exact pk1 | apply zAa)) (zAd (by repeat (first | exact pk1 | apply zAa)) (zAk _)))) (by omega) (by omega)) ?_
    rintro v23 w ⟨A1, hA1, hT⟩; clear E a; intro a E
    have S := S.call2 (zAd (by repeat (first | exact pk1 | apply zAa)) (zAd (by repeat (first | exact pk1 | apply zAa)) (zAk _))) hT
    refine wpList_nil ?_
    refine zAh hK ?_; clear hK; clear K
    refine wp_seq_k ?_; intro K hK
    refine zAc ?_
    iterate 2 (refine zp E (zAe E rfl rfl) ?_; clear E a; intro a E)
    refine zAr E rfl rfl (by decide) rfl Tryz.func94 rfl (by kernel_rfl) rfl (pad_fit p 96 _ A1 _ hA1 96 (S.hp.sel (zAd (by repeat (first | exact pk1 | apply zAa)) (zAk _))) (by omega) (by omega) (by omega)) ?_
    rintro v26 w ⟨A2, hA2, hT⟩; clear E a; intro a E
    have S := S.call1 (zAd (by repeat (first | exact pk1 | apply zAa)) (zAk _)) hT; have hA2 : WrC 186 p ⟨96, zGo (lbB l), 0⟩ A2 := hA2
    refine wpList_nil ?_
    refine zAh hK ?_; clear hK; clear K
    refine wp_seq_k ?_; intro K hK
    refine zAc ?_
    refine zp E (zAe E rfl rfl) ?_; clear E a; intro a E
    refine zAr E rfl rfl (by decide) rfl Tryz.func93 rfl (by kernel_rfl) rfl (done_fit p 96 _ A2 _ hA2 (S.hp.sel (zAd (by repeat (first | exact pk1 | apply zAa)) (zAk _))) (by omega)) ?_
    rintro v28 w ⟨g, rfl, hT⟩; clear E a; intro a E
    have S := S.call2 (zAd (by repeat (first | exact pk1 | apply zAa)) (zAk _)) hT
    iterate 2 (refine zp E (zBx E rfl rfl rfl) ?_; clear E a; intro a E)
    iterate 2 (refine zp E (zAg E rfl rfl) ?_; clear E a; intro a E)
    refine wpList_nil ?_
    refine zAh hK ?_; clear hK; clear K
    refine wp_ret ?_
    refine ret2 E rfl rfl rfl ?_
    exact ⟨_, rfl, _, _, by rw [hpe], by rw [lbP_ok hpe]; exact zGf g (zGo (lbB l)) _ (by omega), (S.only (Bs := [[(g, _)], O]) (zAd pk1 (zAd (by repeat (first | exact pk1 | apply zAa)) (zAk _)))).tr⟩
theorem lbencode_ret (O : zAs) (v : Value) (l : Lbl) (hO : Rd O 3 v l.tops.length (l.tops.flatMap Tp.lay)) (ho : l.Ok) (w0 : World) (H : Hp w0 [O]) :
    Ret Tryz.prog 52 #[lbagg l v] w0 fun u w' => ∃ v C, u = .tuple #[v, .int .i64 (lbE l)] ∧ Buf C 5 1 v (lbO l).length (byt (lbO l)) ∧ Trs w0 w' [O] [C, O] := by
  have S := St.begin H
  refine zDc 11 Tryz.func52 rfl rfl (by decide) ?_; intro a E
  refine wp_seq_k ?_; intro K hK
  refine zAc ?_
  refine zAo rfl (zCs E S rfl rfl (by decide) rfl rfl ?_); clear E S a; intro a w b1 E S
  iterate 2 (refine zp E (zAg E rfl rfl) ?_; clear E a; intro a E)
  refine wpList_nil ?_
  refine zAh hK ?_; clear hK; clear K
  refine wp_seq_k ?_; intro K hK
  refine zAc ?_
  refine zp E (zBw (vs := [_, _, _, _]) E rfl rfl rfl (S.get (by repeat (first | exact pk1 | apply zAa))) rfl rfl) ?_; clear E a; intro a E
  refine zAr E rfl rfl (by decide) rfl Tryz.func77 rfl (by kernel_rfl) rfl (laidlb_ret O v l hO ho _ (S.hp.sel (zAd (by repeat (first | exact pk1 | apply zAa)) (zAk _)))) ?_
  rintro v5 w ⟨x, C, rfl, hC, hT⟩; clear E a; intro a E
  have S := S.call2 (zAd (by repeat (first | exact pk1 | apply zAa)) (zAk _)) hT
  iterate 2 (refine zp E (zBx E rfl rfl rfl) ?_; clear E a; intro a E)
  by_cases hz : lbE l = 0
  · skip
    rw [hz] at E
    have hsm := zKf hz
    have hpl : (zGo (lbB l)).length = 96 := zFz (by omega)
    rw [lbP_ok hz] at hC
    refine zAr E rfl rfl (by decide) rfl Tryz.func76 rfl (by kernel_rfl) rfl (whole_ret C x (zGo (lbB l)) hC.rd hpl _ (S.hp.sel (zAd (by repeat (first | exact pk1 | apply zAa)) (zAk _)))) ?_
    rintro v8 w ⟨g, rfl, hT⟩; clear E a; intro a E
    have S := S.call2 (zAd (by repeat (first | exact pk1 | apply zAa)) (zAk _)) hT
    iterate 2 (refine zp E (zBx E rfl rfl rfl) ?_; clear E a; intro a E)
    iterate 2 (refine zp E (zAg E rfl rfl) ?_; clear E a; intro a E)
    refine wpList_nil ?_
    refine zAh hK ?_; clear hK; clear K
    refine wp_ret ?_
    refine ret2 E rfl rfl rfl ?_
    have hwl : (whole (lbB l)).length = 128 := zIz (by omega)
    have hB := zGf g (whole (lbB l)) 5 (by omega)
    rw [hwl] at hB
    exact ⟨_, rfl, _, _, by rw [hz], by rw [lbO_ok hz, hwl]; exact hB, (S.only (Bs := [[(g, _)], O]) (zAd pk1 (zAd (by repeat (first | exact pk1 | apply zAa)) (zAk _)))).tr⟩
  · skip
    refine zAr E rfl rfl (by decide) rfl Tryz.func76 rfl (by kernel_rfl) rfl (wholeno_ret x _ hz _) ?_
    rintro v8 w ⟨rfl, hT⟩; clear E a; intro a E
    have S := S.quiet hT
    iterate 2 (refine zp E (zBx E rfl rfl rfl) ?_; clear E a; intro a E)
    iterate 2 (refine zp E (zAg E rfl rfl) ?_; clear E a; intro a E)
    refine wpList_nil ?_
    refine zAh hK ?_; clear hK; clear K
    refine wp_ret ?_
    refine ret2 E rfl rfl rfl ?_
    exact ⟨_, rfl, _, [], rfl, by rw [lbO_no hz]; exact Buf.nil _ _, (S.addNil.only (Bs := [[], O]) (zAd (by repeat (first | exact pk1 | apply zAa)) (zAd (by repeat (first | exact pk1 | apply zAa)) (zAk _)))).tr⟩
end Go.Proofs.YtidhehcjafoneaaGreatDoor
namespace Go.Sl
section
variable {P : Program} {a : Act} {w : World} {n : Nat} {e : List (Nat × Value)} {ds : List Deferred} {fn : Func} {R : Ending → World → Prop}
end
theorem St.front7 {w0 w : World} {As Ls L1 L2 L3 L4 L5 L6 L7 : List zAs} {A B C D F G I : zAs} (S : St w0 As w Ls) (p : Ls.Perm (A :: L1)) (q : L1.Perm (B :: L2)) (r : L2.Perm (C :: L3)) (t : L3.Perm (D :: L4)) (u : L4.Perm (F :: L5)) (v : L5.Perm (G :: L6)) (x : L6.Perm (I :: L7)) : St w0 As w (A :: B :: C :: D :: F :: G :: I :: L7) := S.front6 p q r t u (v.trans (x.cons _))
theorem St.front8 {w0 w : World} {As Ls L1 L2 L3 L4 L5 L6 L7 L8 : List zAs} {A B C D F G I J : zAs} (S : St w0 As w Ls) (p : Ls.Perm (A :: L1)) (q : L1.Perm (B :: L2)) (r : L2.Perm (C :: L3)) (t : L3.Perm (D :: L4)) (u : L4.Perm (F :: L5)) (v : L5.Perm (G :: L6)) (x : L6.Perm (I :: L7)) (y : L7.Perm (J :: L8)) : St w0 As w (A :: B :: C :: D :: F :: G :: I :: J :: L8) := S.front7 p q r t u v (x.trans (y.cons _))
end Go.Sl
namespace Go.Sl
structure Wrote (R : Rk) (x : Dk) (k : Nat) (nw : List UInt8) (R' : Rk) : Prop where
  on : On R'
  ds : R'.ds = setD R.ds x.d fun y => { y with now := nw }
  ln : nw.length = x.pl.length
  ws : ∃ t, R'.ws = R.ws ++ t ∧ (∀ w ∈ t, w.d = x.d) ∧ t.length = k
  wr : R'.pw.wr = R.pw.wr + k
theorem wrote_one {R : Rk} (hO : On R) {x : Dk} (hf : x.failed = false) (hnw : x.now.length = x.pl.length) {at_ : Int} {b : List UInt8} (hm : zEu x.pl.length at_ b) :
    R.writeE x at_ b = 0 ∧ Wrote R x (b.length / 128) (zHn x.now at_.toNat b) (R.write x at_ b) := by
  obtain ⟨h1, t, h2, h3, h4⟩ := write_on hO hf hnw hm
  obtain ⟨m1, m2, m3, m4⟩ := hm
  rw [h2]
  exact ⟨h1, ⟨rfl, rfl⟩, rfl, by rw [zIx (by omega)]; exact hnw, ⟨t, rfl, h3, h4⟩, rfl⟩
theorem Wrote.more {R R' : Rk} {x : Dk} {k : Nat} {nw : List UInt8} (h : Wrote R x k nw R') {k2 : Nat} {nw2 : List UInt8} {R2 : Rk} (h2 : Wrote R' { x with now := nw } k2 nw2 R2) : Wrote R x (k + k2) nw2 R2 := by
  obtain ⟨t, e1, e2, e3⟩ := h.ws
  obtain ⟨t2, f1, f2, f3⟩ := h2.ws
  refine ⟨h2.on, ?_, h2.ln, ⟨t ++ t2, by rw [f1, e1, List.append_assoc], fun w hw => ?_, by rw [List.length_append]; omega⟩, by rw [h2.wr, h.wr]; omega⟩
  · rw [h2.ds, h.ds]; exact setD_comp (d := x.d) (g := fun y => { y with now := nw }) (h := fun y => { y with now := nw2 }) (fun y _ hy => hy)
  · rcases List.mem_append.1 hw with hw | hw
    · exact e2 w hw
    · exact f2 w hw
theorem Wrote.zero {R : Rk} (hO : On R) {x : Dk} (hnd : (R.ds.map Dk.d).Nodup) (hx : x ∈ R.ds) (hnw : x.now.length = x.pl.length) : Wrote R x 0 x.now R := by
  refine ⟨hO, ?_, hnw, ⟨[], by simp, by simp, rfl⟩, rfl⟩
  conv => lhs; rw [← List.map_id R.ds]
  refine (List.map_congr_left fun y hy => ?_).symm
  by_cases h : y.d = x.d
  · rw [if_pos h, zHi hnd hy hx h]; rfl
  · rw [if_neg h]; rfl
theorem Wrote.at {R R' : Rk} {x : Dk} {k : Nat} {nw : List UInt8} (h : Wrote R x k nw R') (hx : x ∈ R.ds) : { x with now := nw } ∈ R'.ds := by
  rw [h.ds]; exact setD_has (g := fun y => { y with now := nw }) hx
structure Wrote.Fl (R : Rk) (x : Dk) (k : Nat) (nw : List UInt8) (R' : Rk) : Prop where
  on : On R'
  ds : R'.ds = setD R.ds x.d fun y => { y with pl := nw, now := nw }
  ln : nw.length = x.pl.length
  ws : R'.ws = outW x.d R.ws
  wr : R'.pw.wr = R.pw.wr + k
theorem Wrote.flush {R R' : Rk} {x : Dk} {k : Nat} {nw : List UInt8} (h : Wrote R x k nw R') (hf : x.failed = false) : flE R'.pw x.failed = 0 ∧ Wrote.Fl R x k nw (R'.flush { x with now := nw }) := by
  have h0 : flE R'.pw x.failed = 0 := by unfold flE; rw [h.on.off, hf]; rfl
  refine ⟨h0, ⟨h.on.off, h.on.left⟩, ?_, h.ln, ?_, h.wr⟩
  · unfold Rk.flush flP
    rw [if_pos h0, h.ds]
    exact setD_comp (d := x.d) (g := fun y => { y with now := nw }) (h := fun y => { y with pl := nw }) (fun y _ hy => hy)
  · obtain ⟨t, e1, e2, e3⟩ := h.ws
    unfold Rk.flush flW
    rw [if_pos h0, e1, outW_app, outW_self e2, List.append_nil]
def plc (n k : Nat) : Nat := if k = 0 then 0 else if k = 1 then 9 else if k = 2 then n - 18 else n - 9
end Go.Sl
namespace Go.Proofs.YtidhehcjafoneaaGreatDoor
open Go.Sl
set_option maxRecDepth 10000
section
variable (P : Nat) (R : Rk) (C : zAs) (hC : RkC P R C) (x : Dk) (hx : x ∈ R.ds)
include hC hx
theorem places_ret (n : Nat) (hn : x.pl.length = n * 128) (h18 : 18 ≤ n) (w0 : World) (H : Hp w0 [C]) :
    Ret Tryz.prog 56 #[ptr x.d] w0 fun u w' => u = .agg #[.int .i64 (plc n 0), .int .i64 (plc n 1), .int .i64 (plc n 2), .int .i64 (plc n 3)] ∧ Trs w0 w' [C] [C] := by
  have S := St.begin H
  have hl := (hC.ok.1.2 x hx).2
  have hd : x.pl.length / 128 = n := by omega
  refine zDc 11 Tryz.func56 rfl rfl (by decide) ?_; intro a E
  refine wp_seq_k ?_; intro K hK
  refine zAc ?_
  refine zAo rfl (zCc E S rfl rfl (by decide) rfl rfl rfl ?_); clear E S a; intro a w b2 E S
  refine wpList_nil ?_
  refine zAh hK ?_; clear hK; clear K
  refine wp_seq_k ?_; intro K hK
  refine zAc ?_
  refine zp E (zAe E rfl rfl) ?_; clear E a; intro a E
  refine zAr E rfl rfl (by decide) rfl Tryz.func39 rfl (by kernel_rfl) rfl (zGe P R C hC x hx _ (S.hp.sel (zAd (by repeat (first | exact pk1 | apply zAa)) (zAk _)))) ?_
  rintro v5 w ⟨rfl, hT⟩; clear E a; intro a E
  have S := S.call1 (zAd (by repeat (first | exact pk1 | apply zAa)) (zAk _)) hT; rw [hd] at E
  refine zp E (zAg E rfl rfl) ?_; clear E a; intro a E
  refine wpList_nil ?_
  refine zAh hK ?_; clear hK; clear K
  refine wp_seq_k ?_; intro K hK
  refine zAc ?_
  refine zp E (zAe E rfl rfl) ?_; clear E a; intro a E
  refine zp E (zDf E rfl rfl rfl (by first | exact zEx (y := 18) (by omega) (by omega) | exact w_in (by omega) | exact zBy (by omega) | exact rfl)) ?_; clear E a; intro a E
  refine zp E (zAe E rfl rfl) ?_; clear E a; intro a E
  refine zp E (zDf E rfl rfl rfl (by first | exact zEx (y := 9) (by omega) (by omega) | exact w_in (by omega) | exact zBy (by omega) | exact rfl)) ?_; clear E a; intro a E
  refine zp E (zCo (cells := [_, _, _, _]) E rfl rfl rfl) ?_; clear E a; intro a E
  refine zAo rfl (zCg E S rfl rfl rfl rfl (by simp [Value.oneCell']) rfl (by repeat (first | exact pk1 | apply zAa)) (by simp) ?_); clear E S a; intro a w E S; simp only [List.take_succ_cons, List.take_zero, List.drop_succ_cons, List.drop_zero, List.cons_append, List.nil_append, List.append_nil, List.length_cons, List.length_nil, Nat.zero_add, Nat.add_zero] at S
  refine wpList_nil ?_
  refine zAh hK ?_; clear hK; clear K
  refine wp_ret ?_
  refine zKa E rfl rfl (S.get (by repeat (first | exact pk1 | apply zAa))) rfl ?_
  exact ⟨_, rfl, by simp [plc], (S.only (Bs := [C]) (zAd (by repeat (first | exact pk1 | apply zAa)) (zAk _))).tr⟩
theorem won_ret (hO : On R) (hf : x.failed = false) (hws : R.ws.length + 8192 ≤ 244335861110) (hwr : R.pw.wr ≤ 1000000000000000000) (at_ : Nat) (v : Value) (b : List UInt8) (D : zAs) (hD : Rd D 1 v b.length (byt b)) (hcap : ∃ ad c, v = .slice ad b.length c ∧ b.length ≤ c)
    (hm : zEu x.pl.length at_ b) (w0 : World) (H : Hp w0 [C, D]) :
    Ret Tryz.prog 54 #[ptr x.d, .int .i64 at_, v] w0 fun u w' => u = .int .i64 0 ∧ ∃ R' C', Wrote R x (b.length / 128) (zHn x.now at_ b) R' ∧ RkC P R' C' ∧ Trs w0 w' [C, D] [C', D] := by
  have hl := hC.ok.1.2 x hx
  obtain ⟨m1, m2, m3, m4⟩ := id hm
  refine (rk_write P R C hC x hx hws hwr (by rw [hO.left]; decide) at_ (by omega) v b D hD hcap w0 H).mono fun u w' ⟨C', hu, hC', hT⟩ => ?_
  obtain ⟨h1, h2⟩ := wrote_one hO hf hl.1 hm
  rw [h1] at hu
  exact ⟨hu, _, C', h2, hC', hT⟩
theorem format1_ret (hO : On R) (hf : x.failed = false) (hws : R.ws.length + 8192 ≤ 244335861110) (hwr : R.pw.wr ≤ 1000000000000000000) (n : Nat) (hn : x.pl.length = n * 128) (h274 : 274 ≤ n) (b2 : Nat) (w0 : World) (H : Hp w0 [C, [(b2, cel [ptr x.d] 46)]]) :
    Ret Tryz.prog 53 #[ptr b2] w0 fun u w' => u = .int .i64 0 ∧ ∃ nw R' C', Wrote R x 274 nw R' ∧ RkC P R' C' ∧ Trs w0 w' [C, [(b2, cel [ptr x.d] 46)]] [C', [(b2, cel [ptr x.d] 46)]] := by
  have S := St.begin H
  have hz : List.replicate 35072 (.int .u8 0) = byt (List.replicate 35072 0) := (zGz 35072).symm
  have hzl : (List.replicate 35072 (0 : UInt8)).length = 35072 := List.length_replicate
  obtain ⟨zs, hzs⟩ : ∃ zs, zs = List.replicate 35072 (0 : UInt8) := ⟨_, rfl⟩
  rw [← hzs] at hz hzl
  refine zDc 5 Tryz.func53 rfl rfl (by decide) ?_; intro a E
  refine wp_seq_k ?_; intro K hK
  refine zAc ?_
  refine zp E (zAg E rfl rfl) ?_; clear E a; intro a E
  refine wpList_nil ?_
  refine zAh hK ?_; clear hK; clear K
  refine wp_seq_k ?_; intro K hK
  refine zDt S (.ofL [(0, 0), (1, 1), (2, 3), (3, 2)]) [[(b2, cel [ptr x.d] 46)]] (fun h => h.sub (by first | (simp; done) | (simp +contextual; done) | (simp [*]; done))) (by kernel_rfl) (by kernel_rfl) ?_
  clear S; intro w S
  refine zm E rfl (fun w h => by first | exact zAn E rfl rfl rfl (h.one (by repeat (first | exact mm1 | assumption | apply List.Mem.tail))) rfl | exact zAj E rfl rfl rfl (by assumption)) ?_; clear E a; intro a E
  refine zDp rfl rfl (zDq (by' := 1) E S rfl rfl (by decide) rfl rfl rfl rfl rfl rfl rfl rfl rfl rfl rfl (k := 35072) (mkb (by omega)) (by simp only [maxLen]; omega) ?_); clear E S a; intro a w g3 E S; refine ⟨S.stab.sub (fun D hD => by rw [List.mem_singleton.1 hD]; exact (by repeat (first | exact mm1 | assumption | apply List.Mem.tail))), ?_⟩
  rw [hz] at S
  refine zDl E rfl rfl rfl (by decide) rfl Tryz.func54 rfl (by kernel_rfl) rfl (won_ret P R C hC x hx hO hf hws hwr 0 _ zs [(g3, _)] (by rw [hzl]; exact zCr (T := 5) (by rw [zBm, hzl]) (zDv _) (by omega) _) ⟨_, _, by rw [hzl], by rw [hzl]; exact Nat.le_refl _⟩ (by unfold zEu; rw [hzl]; omega) _ (S.hp.sel (zAd (by repeat (first | exact pk1 | apply zAa)) (zAd (by repeat (first | exact pk1 | apply zAa)) (zAk _))))) ?_
  rintro v4 w ⟨rfl, R', C', hW, hC', hT⟩; clear E a; intro a E
  have S := S.call2 (zAd (by repeat (first | exact pk1 | apply zAa)) (zAd (by repeat (first | exact pk1 | apply zAa)) (zAk _))) hT
  refine zCl E rfl rfl rfl (by decide) (fun w => zAg E rfl rfl) ?_; clear E a; intro a E
  refine zBs ?_
  refine zAh hK ?_; clear hK; clear K
  refine wp_ret ?_
  refine ret1 E rfl rfl ?_
  exact ⟨_, rfl, rfl, _, R', C', by rw [hzl] at hW; exact hW, hC', (S.only (Bs := [C', [(b2, _)]]) (zAd (by repeat (first | exact pk1 | apply zAa)) (zAd (by repeat (first | exact pk1 | apply zAa)) (zAk _)))).tr⟩
theorem format2_ret (hO : On R) (hf : x.failed = false) (hws : R.ws.length + 8192 ≤ 244335861110) (hwr : R.pw.wr ≤ 1000000000000000000) (n : Nat) (hn : x.pl.length = n * 128) (h274 : 274 ≤ n) (b2 : Nat) (w0 : World) (H : Hp w0 [C, [(b2, cel [ptr x.d] 46)]]) :
    Ret Tryz.prog 55 #[ptr b2] w0 fun u w' => u = .int .i64 0 ∧ ∃ nw R' C', Wrote R x 18 nw R' ∧ RkC P R' C' ∧ Trs w0 w' [C, [(b2, cel [ptr x.d] 46)]] [C', [(b2, cel [ptr x.d] 46)]] := by
  have S := St.begin H
  have hl := (hC.ok.1.2 x hx).2
  have hd : x.pl.length / 128 = n := by omega
  have hz : List.replicate 2304 (.int .u8 0) = byt (List.replicate 2304 0) := (zGz 2304).symm
  have hzl : (List.replicate 2304 (0 : UInt8)).length = 2304 := List.length_replicate
  obtain ⟨zs, hzs⟩ : ∃ zs, zs = List.replicate 2304 (0 : UInt8) := ⟨_, rfl⟩
  rw [← hzs] at hz hzl
  refine zDc 8 Tryz.func55 rfl rfl (by decide) ?_; intro a E
  refine wp_seq_k ?_; intro K hK
  refine zAc ?_
  refine zp E (zAg E rfl rfl) ?_; clear E a; intro a E
  refine wpList_nil ?_
  refine zAh hK ?_; clear hK; clear K
  refine wp_seq_k ?_; intro K hK
  refine zDt S (.cons (0, 0) (.cons (1, 0) (.fork 2 (.ofL [(3, 0), (4, 1), (5, 3), (6, 2)]) 4 (.ofL [(2, 1), (3, 0), (5, 3), (6, 2)])))) [[(b2, cel [ptr x.d] 46)]] (fun h => h.sub (by first | (simp; done) | (simp +contextual; done) | (simp [*]; done))) (by kernel_rfl) (by kernel_rfl) ?_
  clear S; intro w S
  iterate 2 (refine zm E rfl (fun w h => by first | exact zAn E rfl rfl rfl (h.one (by repeat (first | exact mm1 | assumption | apply List.Mem.tail))) rfl | exact zAj E rfl rfl rfl (by assumption)) ?_; clear E a; intro a E)
  refine ⟨?_, ?_⟩
  · skip
    refine zCn E rfl rfl rfl (by decide) rfl Tryz.func39 rfl (by kernel_rfl) rfl (zGe P R C hC x hx _ (S.hp.sel (zAd (by repeat (first | exact pk1 | apply zAa)) (zAk _)))) ?_
    rintro v4 w ⟨rfl, hT⟩; clear E a; intro a E
    have S := S.call1 (zAd (by repeat (first | exact pk1 | apply zAa)) (zAk _)) hT; rw [hd] at E
    refine ⟨S.stab.sub (fun D hD => by rw [List.mem_singleton.1 hD]; exact (by repeat (first | exact mm1 | assumption | apply List.Mem.tail))), ?_⟩
    refine zm E rfl (fun w h => zDf E rfl rfl rfl (by first | exact zEx (y := 18) (by omega) (by omega) | exact w_in (by omega) | exact zBy (by omega) | exact rfl)) ?_; clear E a; intro a E
    refine zDp rfl rfl (zDq (by' := 1) E S rfl rfl (by decide) rfl rfl rfl rfl rfl rfl rfl rfl rfl rfl rfl (k := 2304) (mkb (by omega)) (by simp only [maxLen]; omega) ?_); clear E S a; intro a w g6 E S; refine ⟨S.stab.sub (fun D hD => by rw [List.mem_singleton.1 hD]; exact (by repeat (first | exact mm1 | assumption | apply List.Mem.tail))), ?_⟩
    rw [hz] at S
    refine zDl E rfl rfl rfl (by decide) rfl Tryz.func54 rfl (by kernel_rfl) rfl (won_ret P R C hC x hx hO hf hws hwr (n - 18) _ zs [(g6, _)] (by rw [hzl]; exact zCr (T := 5) (by rw [zBm, hzl]) (zDv _) (by omega) _) ⟨_, _, by rw [hzl], by rw [hzl]; exact Nat.le_refl _⟩ (by unfold zEu; rw [hzl]; omega) _ (S.hp.sel (zAd (by repeat (first | exact pk1 | apply zAa)) (zAd (by repeat (first | exact pk1 | apply zAa)) (zAk _))))) ?_
    rintro v7 w ⟨rfl, R', C', hW, hC', hT⟩; clear E a; intro a E
    have S := S.call2 (zAd (by repeat (first | exact pk1 | apply zAa)) (zAd (by repeat (first | exact pk1 | apply zAa)) (zAk _))) hT
    refine zCl E rfl rfl rfl (by decide) (fun w => zAg E rfl rfl) ?_; clear E a; intro a E
    refine zBs ?_
    refine zAh hK ?_; clear hK; clear K
    refine wp_ret ?_
    refine ret1 E rfl rfl ?_
    exact ⟨_, rfl, rfl, _, R', C', by rw [hzl] at hW; exact hW, hC', (S.only (Bs := [C', [(b2, _)]]) (zAd (by repeat (first | exact pk1 | apply zAa)) (zAd (by repeat (first | exact pk1 | apply zAa)) (zAk _)))).tr⟩
  · skip
    refine zDp rfl rfl (zDq (by' := 1) E S rfl rfl (by decide) rfl rfl rfl rfl rfl rfl rfl rfl rfl rfl rfl (k := 2304) (mkb (by omega)) (by simp only [maxLen]; omega) ?_); clear E S a; intro a w g6 E S; refine ⟨S.stab.sub (fun D hD => by rw [List.mem_singleton.1 hD]; exact (by repeat (first | exact mm1 | assumption | apply List.Mem.tail))), ?_⟩
    rw [hz] at S
    refine zCn E rfl rfl rfl (by decide) rfl Tryz.func39 rfl (by kernel_rfl) rfl (zGe P R C hC x hx _ (S.hp.sel (zAd (by repeat (first | exact pk1 | apply zAa)) (zAk _)))) ?_
    rintro v4 w ⟨rfl, hT⟩; clear E a; intro a E
    have S := S.call1 (zAd (by repeat (first | exact pk1 | apply zAa)) (zAk _)) hT; rw [hd] at E
    refine ⟨S.stab.sub (fun D hD => by rw [List.mem_singleton.1 hD]; exact (by repeat (first | exact mm1 | assumption | apply List.Mem.tail))), ?_⟩
    refine zm E rfl (fun w h => zDf E rfl rfl rfl (by first | exact zEx (y := 18) (by omega) (by omega) | exact w_in (by omega) | exact zBy (by omega) | exact rfl)) ?_; clear E a; intro a E
    refine zDl E rfl rfl rfl (by decide) rfl Tryz.func54 rfl (by kernel_rfl) rfl (won_ret P R C hC x hx hO hf hws hwr (n - 18) _ zs [(g6, _)] (by rw [hzl]; exact zCr (T := 5) (by rw [zBm, hzl]) (zDv _) (by omega) _) ⟨_, _, by rw [hzl], by rw [hzl]; exact Nat.le_refl _⟩ (by unfold zEu; rw [hzl]; omega) _ (S.hp.sel (zAd (by repeat (first | exact pk1 | apply zAa)) (zAd (by repeat (first | exact pk1 | apply zAa)) (zAk _))))) ?_
    rintro v7 w ⟨rfl, R', C', hW, hC', hT⟩; clear E a; intro a E
    have S := S.call2 (zAd (by repeat (first | exact pk1 | apply zAa)) (zAd (by repeat (first | exact pk1 | apply zAa)) (zAk _))) hT
    refine zCl E rfl rfl rfl (by decide) (fun w => zAg E rfl rfl) ?_; clear E a; intro a E
    refine zBs ?_
    refine zAh hK ?_; clear hK; clear K
    refine wp_ret ?_
    refine ret1 E rfl rfl ?_
    exact ⟨_, rfl, rfl, _, R', C', by rw [hzl] at hW; exact hW, hC', (S.only (Bs := [C', [(b2, _)]]) (zAd (by repeat (first | exact pk1 | apply zAa)) (zAd (by repeat (first | exact pk1 | apply zAa)) (zAk _)))).tr⟩
theorem format3_ret (hO : On R) (hf : x.failed = false) (hws : R.ws.length + 8192 ≤ 244335861110) (hwr : R.pw.wr ≤ 1000000000000000000) (n k : Nat) (hn : x.pl.length = n * 128) (h274 : 274 ≤ n) (v : Value) (b : List UInt8) (hbl : b.length = 128) (D : zAs) (hD : Rd D 1 v b.length (byt b)) (hcap : ∃ ad c, v = .slice ad b.length c ∧ b.length ≤ c)
    (b2 b10 b6 : Nat) (G : zAs) (hG : (b10, cel [.int .i64 (plc n k)] 3) ∈ G) (T2 : TypeId) (w0 : World) (H : Hp w0 [C, D, G, [(b2, cel [ptr x.d] 46)], [(b6, cel [v] T2)]]) :
    Ret Tryz.prog 57 #[ptr b2, ptr b10, ptr b6] w0 fun u w' => u = .int .i64 0 ∧ ∃ nw R' C', Wrote R x 1 nw R' ∧ RkC P R' C' ∧ Trs w0 w' [C, D, G, [(b2, cel [ptr x.d] 46)], [(b6, cel [v] T2)]] [C', D, G, [(b2, cel [ptr x.d] 46)], [(b6, cel [v] T2)]] := by
  have S := St.begin H
  have hp : plc n k + 1 ≤ n := by unfold plc; split; omega; split; omega; split <;> omega
  obtain ⟨ad, c, rfl, hcl⟩ := hcap
  refine zEs 8 Tryz.func57 rfl rfl (by decide) ?_; intro a E
  refine wp_seq_k ?_; intro K hK
  refine zAc ?_
  refine zp E (zAg E rfl rfl) ?_; clear E a; intro a E
  refine wpList_nil ?_
  refine zAh hK ?_; clear hK; clear K
  refine wp_seq_k ?_; intro K hK
  refine zAc ?_
  refine zp E (by first | exact zAn E rfl rfl rfl (S.get (by repeat (first | exact pk1 | apply zAa))) rfl | exact zAj E rfl rfl rfl (by assumption)) ?_; clear E a; intro a E
  refine zp E (zAj E rfl rfl rfl (zCt (j := 0) (S.stab.at (C := G) (by repeat (first | exact mm1 | assumption | apply List.Mem.tail)) _ hG) rfl)) ?_; clear E a; intro a E
  refine zp E (by first | exact zAn E rfl rfl rfl (S.get (by repeat (first | exact pk1 | apply zAa))) rfl | exact zAj E rfl rfl rfl (by assumption)) ?_; clear E a; intro a E
  refine zAr E rfl rfl (by decide) rfl Tryz.func54 rfl (by kernel_rfl) rfl (won_ret P R C hC x hx hO hf hws hwr (plc n k) _ b D hD ⟨_, _, rfl, hcl⟩ (by unfold zEu; omega) _ (S.hp.sel (zAd (by repeat (first | exact pk1 | apply zAa)) (zAd (by repeat (first | exact pk1 | apply zAa)) (zAk _))))) ?_
  rintro v7 w ⟨rfl, R', C', hW, hC', hT⟩; clear E a; intro a E
  have S := S.call2 (zAd (by repeat (first | exact pk1 | apply zAa)) (zAd (by repeat (first | exact pk1 | apply zAa)) (zAk _))) hT
  refine zp E (zAg E rfl rfl) ?_; clear E a; intro a E
  refine wpList_nil ?_
  refine zAh hK ?_; clear hK; clear K
  refine wp_ret ?_
  refine ret1 E rfl rfl ?_
  exact ⟨_, rfl, rfl, _, R', C', by rw [hbl] at hW; exact hW, hC', (S.front5 (A := C') (by repeat (first | exact pk1 | apply zAa)) (B := D) (by repeat (first | exact pk1 | apply zAa)) (C := G) (by repeat (first | exact pk1 | apply zAa)) (D := [(b2, _)]) (by repeat (first | exact pk1 | apply zAa)) (F := [(b6, _)]) (by repeat (first | exact pk1 | apply zAa))).tr⟩
end
end Go.Proofs.YtidhehcjafoneaaGreatDoor
namespace Go.Sl
def wk (i : Nat) : Nat := if i = 0 then 0 else if i = 1 then 274 else 290 + i
theorem labeled {l : Lbl} (h : lbE l = 0) : l.may := by
  unfold lbE at h
  by_cases q : l.may
  · exact q
  · rw [if_neg q] at h; cases h
theorem lbB_le {l : Lbl} (h : l.may) : (lbB l).length ≤ 96 := by
  obtain ⟨-, h2, -⟩ := h
  have h3 : (l.tops.flatMap tpB).length = l.tops.length * 6 := by
    generalize l.tops = ts
    induction ts with
    | nil => rfl
    | cons a r ih => rw [List.flatMap_cons, List.length_append, ih, List.length_cons]; simp [tpB, zBz]; omega
  rw [lbB, List.length_append, zHk, h3]; omega
theorem lbO_len {l : Lbl} (h : lbE l = 0) : (lbO l).length = 128 := by rw [lbO, if_pos h]; exact zIz (lbB_le (labeled h))
end Go.Sl
namespace Go.Proofs.YtidhehcjafoneaaGreatDoor
open Go.Sl
set_option maxRecDepth 10000
theorem tclone_ret (O : zAs) (v : Value) (l : List Tp) (hO : Rd O 3 v l.length (l.flatMap Tp.lay)) (hl : l.length ≤ 1000000) (w0 : World) (H : Hp w0 [O]) :
    Ret Tryz.prog 59 #[v] w0 fun u w' => ∃ C, Buf C 131 3 u l.length (l.flatMap Tp.lay) ∧ Trs w0 w' [O] [C, O] := by
  have S := St.begin H
  obtain ⟨ad, c, rfl⟩ := hO.slice
  refine zDc 8 Tryz.func59 rfl rfl (by decide) ?_; intro a E
  refine wp_seq_k ?_; intro K hK
  refine zAc ?_
  refine zp E (zAg E rfl rfl) ?_; clear E a; intro a E
  refine wpList_nil ?_
  refine zAh hK ?_; clear hK; clear K
  iterate 2 (refine wp_seq_k ?_; intro K hK)
  refine zAc ?_
  refine zp E (zAe E rfl rfl) ?_; clear E a; intro a E
  refine zp E (zDi E rfl rfl rfl rfl) ?_; clear E a; intro a E
  refine wpList_nil ?_
  refine zAh hK ?_; clear hK; clear K
  refine zBl E rfl (fun hb => ?_) (fun hb => ?_)
  · replace hb := Nrm.nrm hb
    refine wp_seq_k ?_; intro K hK
    refine zAc ?_
    refine zp E (zAg E rfl rfl) ?_; clear E a; intro a E
    refine wpList_nil ?_
    refine zAh hK ?_; clear hK; clear K
    refine wp_ret ?_
    refine zBi ?_; clear hK; clear K
    refine ret1 E rfl rfl ?_
    have hn : ad = none := by cases ad <;> first | rfl | (simp at hb)
    subst hn
    have hl0 : l = [] := by
      rcases hO.2.2.2 with ⟨h, _⟩ | ⟨_, _, _, _, _, _, h, _⟩
      · exact List.eq_nil_of_length_eq_zero h
      · cases h
    subst hl0
    exact ⟨_, rfl, [], Buf.nil _ _, S.addNil.tr⟩
  · replace hb := Nrm.nrm hb
    refine wp_skip ?_
    refine zAh hK ?_; clear hK; clear K
    refine wp_seq_k ?_; intro K hK
    refine zAc ?_
    refine zAo rfl (wp_bslice0 E S rfl rfl (by decide) rfl rfl ?_); clear E S a; intro a w b5 E S
    have hB0 : Buf [(b5, cel [] 131)] 131 3 (.slice (some ⟨b5, 0, none⟩) 0 0) 0 [] := buf_room (by simp [maxLen]) rfl
    refine zp E (zAe E rfl rfl) ?_; clear E a; intro a E
    refine zAo rfl (zCi (by' := 24) E S rfl rfl (by decide) rfl rfl hB0 (by repeat (first | exact pk1 | apply zAa)) (hO.src (S.stab.at (by repeat (first | exact mm1 | assumption | apply List.Mem.tail))) rfl) rfl rfl rfl rfl rfl rfl (by simp only [maxLen]; omega) (by omega) ?_); clear E S a; intro a w v7 C7 E S hB7
    refine zp E (zAg E rfl rfl) ?_; clear E a; intro a E
    refine wpList_nil ?_
    refine zAh hK ?_; clear hK; clear K
    refine wp_ret ?_
    refine ret1 E rfl rfl ?_
    exact ⟨_, rfl, C7, by simpa using hB7, (S.front2 (A := C7) (by repeat (first | exact pk1 | apply zAa)) (B := O) (by repeat (first | exact pk1 | apply zAa))).tr⟩
abbrev fm1 (b2 : Nat) : Value := .func (.func 53) #[] #[ptr b2]
abbrev fm2 (b2 : Nat) : Value := .func (.func 55) #[] #[ptr b2]
abbrev fm3 (b2 b6 b10 : Nat) : Value := .func (.func 57) #[] #[ptr b2, ptr b10, ptr b6]
abbrev fm4 (d : Nat) : Value := .func (.func 58) #[ptr d] #[]
abbrev stepsV (b2 b6 d : Nat) (bs : List Nat) : List Value := [fm1 b2, fm2 b2] ++ bs.map (fm3 b2 b6) ++ [fm4 d]
theorem steps_mid (b2 b6 d : Nat) (bs : List Nat) {k : Nat} (h : k < bs.length) : (stepsV b2 b6 d bs)[k + 2]? = some (fm3 b2 b6 bs[k]) := by
  show (bs.map (fm3 b2 b6) ++ [fm4 d])[k]? = _
  rw [List.getElem?_append_left (by simpa using h), List.getElem?_map, List.getElem?_eq_getElem h]; rfl
theorem steps_last (b2 b6 d : Nat) (bs : List Nat) (h : bs.length = 4) : (stepsV b2 b6 d bs)[6]? = some (fm4 d) := by
  rw [List.getElem?_append_right (by simp [h])]; simp [h]
theorem rd1f (g : Nat) (f : Value) (hf : f.oneCell' = true) (T : TypeId) : Rd [(g, cel [f] T)] 1 (.slice (some ⟨g, 0, none⟩) 1 1) 1 [f] := zCr rfl (by simpa using hf) (by omega) 1
theorem lformat_ret (P : Nat) (R : Rk) (C : zAs) (hC : RkC P R C) (x : Dk) (hx : x ∈ R.ds) (hO : On R) (hf : x.failed = false) (hws : R.ws.length + 16384 ≤ 244335861110) (hwr : R.pw.wr ≤ 900000000000000000)
    (n : Nat) (hn : x.pl.length = n * 128) (O : zAs) (v : Value) (l : Lbl) (hT : Rd O 3 v l.tops.length (l.tops.flatMap Tp.lay)) (ho : l.Ok) (hl : lbE l = 0) (hsec : (l.tops.getD l.top.toNat zIf).sectors = n) (w0 : World) (H : Hp w0 [C, O]) :
    Ret Tryz.prog 28 #[ptr x.d, lbagg l v] w0 fun u w' => ∃ p L R' C' F, u = .tuple #[ptr p, .int .i64 0] ∧ LfC p x.d L ∧ RkC P R' C' ∧ Wrote.Fl R x 296 F R' ∧ Trs w0 w' [C, O] [L, C', O] := by
  have S := St.begin H
  have hmay := labeled hl
  obtain ⟨y1, y2, y3, y4, y5, y6, y7⟩ := hmay
  have htl : l.top.toNat < l.tops.length := by omega
  have hn4 : 324 ≤ n ∧ n ≤ 8192 := by
    have := y7 (l.tops.getD l.top.toNat zIf) (by rw [List.getD_eq_getElem?_getD, List.getElem?_eq_getElem htl]; exact List.getElem_mem htl)
    obtain ⟨q1, q2, -⟩ := this
    rw [hsec] at q1 q2
    omega
  have hxl := hC.ok.1.2 x hx
  have hnd := hC.ok.1.1
  have hd : x.pl.length / 128 = n := by omega
  have hbl := lbO_len hl
  obtain ⟨lb, hlb⟩ : ∃ lb, lb = lbO l := ⟨_, rfl⟩
  rw [← hlb] at hbl
  obtain ⟨ad, c, rfl⟩ := hT.slice
  obtain ⟨ob, oo, rfl⟩ := hT.addr (by omega)
  obtain ⟨tn, htn⟩ : ∃ tn : Nat, l.top = tn := ⟨l.top.toNat, by omega⟩
  have hsl : (l.tops.flatMap Tp.lay)[tn * 3 + 2]? = some (.int .i64 n) := by
    have h := flat_at (lay := Tp.lay) (s := 3) Tp.lay_len l.tops tn (by omega) 2 (.int .i64 n) (by
      rw [htn, Int.toNat_natCast, List.getD_eq_getElem?_getD, List.getElem?_eq_getElem (by omega : tn < l.tops.length), Option.getD_some] at hsec
      rw [← hsec]; rfl)
    exact h
  refine zCy 70 Tryz.func28 rfl rfl (by decide) ?_; intro a E
  refine wp_seq_k ?_; intro K hK
  refine zAc ?_
  refine zAo rfl (zCs E S rfl rfl (by decide) rfl rfl ?_); clear E S a; intro a w b2 E S
  refine zAo rfl (zCs E S rfl rfl (by decide) rfl rfl ?_); clear E S a; intro a w b3 E S
  iterate 2 (refine zp E (zAg E rfl rfl) ?_; clear E a; intro a E)
  refine wpList_nil ?_
  refine zAh hK ?_; clear hK; clear K
  refine wp_seq_k ?_; intro K hK
  refine zAc ?_
  refine zp E (zBw (vs := [_, _, _, _]) E rfl rfl rfl (S.get (by repeat (first | exact pk1 | apply zAa))) rfl rfl) ?_; clear E a; intro a E
  refine zAr E rfl rfl (by decide) rfl Tryz.func52 rfl (by kernel_rfl) rfl (lbencode_ret O _ l hT ho _ (S.hp.sel (zAd (by repeat (first | exact pk1 | apply zAa)) (zAk _)))) ?_
  rintro v16 w ⟨vb, D, rfl, hD, hT'⟩; clear E a; intro a E
  have S := S.call2 (zAd (by repeat (first | exact pk1 | apply zAa)) (zAk _)) hT'; rw [hl] at E; rw [← hlb] at hD
  obtain ⟨add, cd, rfl⟩ := hD.slice
  have hcd := hD.cap_le
  refine zp E (zAe E rfl rfl) ?_; clear E a; intro a E
  iterate 2 (refine zp E (zBx E rfl rfl rfl) ?_; clear E a; intro a E)
  refine zAo rfl (zCc E S rfl rfl (by decide) rfl rfl rfl ?_); clear E S a; intro a w b6 E S
  refine zAo rfl (zBg E S rfl rfl rfl rfl rfl rfl (by repeat (first | exact pk1 | apply zAa)) (by first | exact Nat.le_of_ble_eq_true rfl | (simp; done) | (simp; omega)) ?_); clear E S a; intro a w E S; try dsimp only [List.set] at S
  refine zp E (zAg E rfl rfl) ?_; clear E a; intro a E
  refine wpList_nil ?_
  refine zAh hK ?_; clear hK; clear K
  iterate 2 (refine wp_seq_k ?_; intro K hK)
  refine zAc ?_
  refine zp E (zAe E rfl rfl) ?_; clear E a; intro a E
  refine zp E (by first | exact zCu E rfl rfl rfl | exact zAz E rfl rfl rfl rfl | exact zBj E rfl rfl rfl rfl | exact zBd E rfl rfl rfl) ?_; clear E a; intro a E
  refine wpList_nil ?_
  refine zAh hK ?_; clear hK; clear K
  refine zBt E rfl (rfl) ?_
  refine wp_skip ?_
  refine zAh hK ?_; clear hK; clear K
  iterate 2 (refine wp_seq_k ?_; intro K hK)
  refine zDt S (.ofL [(0, 0), (1, 0), (2, 0), (3, 0), (4, 0), (5, 0), (6, 0), (7, 0), (8, 1), (9, 0)]) [[(b3, cel [.int .u64 l.pool, .slice (some ⟨ob, oo, none⟩) l.tops.length c, .int .i64 l.top, .int .i64 l.place] 77)], O, [(b2, cel [ptr x.d] 46)]] (fun h => h.sub (by first | (simp; done) | (simp +contextual; done) | (simp [*]; done))) (by kernel_rfl) (by kernel_rfl) ?_
  clear S; intro w S
  refine zm E rfl (fun w h => by first | exact zAf (q := 1) E rfl rfl rfl | exact zAi (q := 1) E rfl rfl rfl) ?_; clear E a; intro a E
  refine zm E rfl (fun w h => by first | exact zAn E rfl rfl rfl (h.one (by repeat (first | exact mm1 | assumption | apply List.Mem.tail))) rfl | exact zAj E rfl rfl rfl (by assumption)) ?_; clear E a; intro a E
  refine zm E rfl (fun w h => by first | exact zAf (q := 2) E rfl rfl rfl | exact zAi (q := 2) E rfl rfl rfl) ?_; clear E a; intro a E
  refine zm E rfl (fun w h => by first | exact zAn E rfl rfl rfl (h.one (by repeat (first | exact mm1 | assumption | apply List.Mem.tail))) rfl | exact zAj E rfl rfl rfl (by assumption)) ?_; clear E a; intro a E
  refine zm E rfl (fun w h => zBn (i := tn) E rfl rfl rfl rfl rfl htn (by omega)) ?_; clear E a; intro a E
  refine zm E rfl (fun w h => by first | exact zAf (q := 2) E rfl rfl rfl | exact zAi (q := 2) E rfl rfl rfl) ?_; clear E a; intro a E
  refine zm E rfl (fun w h => zAj E rfl rfl rfl (hT.cells (h.at (by repeat (first | exact mm1 | assumption | apply List.Mem.tail))) rfl (tn * 3 + 2) _ hsl)) ?_; clear E a; intro a E
  refine zm E rfl (fun w h => by first | exact zAn E rfl rfl rfl (h.one (by repeat (first | exact mm1 | assumption | apply List.Mem.tail))) rfl | exact zAj E rfl rfl rfl (by assumption)) ?_; clear E a; intro a E
  refine zCn E rfl rfl rfl (by decide) rfl Tryz.func39 rfl (by kernel_rfl) rfl (zGe P R C hC x hx _ (S.hp.sel (zAd (by repeat (first | exact pk1 | apply zAa)) (zAk _)))) ?_
  rintro v30 w ⟨rfl, hT'⟩; clear E a; intro a E
  have S := S.call1 (zAd (by repeat (first | exact pk1 | apply zAa)) (zAk _)) hT'; rw [hd] at E
  refine ⟨S.stab.sub (by first | (simp; done) | (simp +contextual; done) | (simp [*]; done)), ?_⟩
  refine zm E rfl (fun w h => by first | exact zCu E rfl rfl rfl | exact zAz E rfl rfl rfl rfl | exact zBj E rfl rfl rfl rfl | exact zBd E rfl rfl rfl) ?_; clear E a; intro a E
  refine zBs ?_
  refine zAh hK ?_; clear hK; clear K
  refine zBt E rfl ((by simp)) ?_
  refine wp_skip ?_
  refine zAh hK ?_; clear hK; clear K
  refine wp_seq_k ?_; intro K hK
  replace E := E.keep (e' := [(2, _), (3, _), (4, _), (5, _), (6, _)]) (zAb rfl (zAb rfl (zAb rfl (zAb rfl (zAb rfl (zAp))))))
  refine zAc ?_
  iterate 2 (refine zp E (zEp E rfl rfl ⟨_, rfl⟩) ?_; clear E a; intro a E)
  refine zAo rfl (zCk (cells := [_, _]) E S rfl rfl (by decide) rfl rfl rfl rfl rfl (by decide) rfl ?_); clear E S a; intro a w b34 E S
  refine zp E (zAg E rfl rfl) ?_; clear E a; intro a E
  refine wpList_nil ?_
  have hF0 : Buf [(b34, cel [fm1 b2, fm2 b2] 56)] 56 1 (.slice (some ⟨b34, 0, none⟩) 2 2) 2 [fm1 b2, fm2 b2] := zJx (r := []) rfl (by simp [Value.oneCell']) (by omega) (by simp [maxLen]) rfl
  refine zAh hK ?_; clear hK; clear K
  iterate 2 (refine wp_seq_k ?_; intro K hK)
  refine zAc ?_
  refine zp E (by first | exact zAn E rfl rfl rfl (S.get (by repeat (first | exact pk1 | apply zAa))) rfl | exact zAj E rfl rfl rfl (by assumption)) ?_; clear E a; intro a E
  refine zAr E rfl rfl (by decide) rfl Tryz.func56 rfl (by kernel_rfl) rfl (places_ret P R C hC x hx n hn (by omega) _ (S.hp.sel (zAd (by repeat (first | exact pk1 | apply zAa)) (zAk _)))) ?_
  rintro v36 w ⟨rfl, hT'⟩; clear E a; intro a E
  have S := S.call1 (zAd (by repeat (first | exact pk1 | apply zAa)) (zAk _)) hT'
  refine zp E (zAe E rfl rfl) ?_; clear E a; intro a E
  refine wpList_nil ?_
  refine zAh hK ?_; clear hK; clear K
  refine wp_block ?_
  refine wp_loop_ghost (fun (m : Nat) (a : Act) (w' : World) => ∃ (k : Nat) (bs : List Nat) (G FC : zAs) (vF : Value), m = 4 - k ∧ k ≤ 4 ∧ bs.length = k ∧ (∀ j (h : j < bs.length), (bs[j], cel [.int .i64 (plc n j)] 3) ∈ G) ∧ Buf FC 56 1 vF (2 + k) ([fm1 b2, fm2 b2] ++ bs.map (fm3 b2 b6)) ∧ (∃ Xs, St w0 [C, O] w' (FC :: G :: C :: D :: [(b6, cel [.slice add lb.length cd] 22)] :: [(b3, cel [.int .u64 l.pool, .slice (some ⟨ob, oo, none⟩) l.tops.length c, .int .i64 l.top, .int .i64 l.place] 77)] :: [(b2, cel [ptr x.d] 46)] :: O :: Xs)) ∧ Fr a 70 [(2, ptr b2), (3, ptr b3), (6, ptr b6), (8, vF), (36, .agg #[.int .i64 (plc n 0), .int .i64 (plc n 1), .int .i64 (plc n 2), .int .i64 (plc n 3)]), (37, .int .i64 k)]) (4 - 0) ?_ ?_
  · exact ⟨0, [], [], _, _, rfl, by omega, rfl, fun j h => by simp at h, by simpa using hF0, ⟨[], S.addNil.front8 (A := [(b34, _)]) (by repeat (first | exact pk1 | apply zAa)) (B := []) (by repeat (first | exact pk1 | apply zAa)) (C := C) (by repeat (first | exact pk1 | apply zAa)) (D := D) (by repeat (first | exact pk1 | apply zAa)) (F := [(b6, _)]) (by repeat (first | exact pk1 | apply zAa)) (G := [(b3, _)]) (by repeat (first | exact pk1 | apply zAa)) (I := [(b2, _)]) (by repeat (first | exact pk1 | apply zAa)) (J := O) (by repeat (first | exact pk1 | apply zAa))⟩, E.keep (zAb rfl (zAb rfl (zAb rfl (zAb rfl (zAb rfl (zAb rfl zAp))))))⟩
  clear E; clear a; (try clear S); rintro m a w ⟨k, bs, G, FC, vF, rfl, hk, hbs, hG, hFC, ⟨Xs, S⟩, E⟩
  refine wp_seq_k ?_; intro K hK
  refine zAc ?_
  refine zp E (zCb E rfl rfl rfl) ?_; clear E a; intro a E
  refine wpList_nil ?_
  refine zAh hK ?_; clear hK; clear K
  refine wp_seq_k ?_; intro K hK
  refine zBl E rfl (fun hb => ?_) (fun hb => ?_)
  · replace hb := Nrm.nrm hb
    refine wp_skip ?_
    refine zAh hK ?_; clear hK; clear K
    refine wp_seq_k ?_; intro K hK
    refine wp_block ?_
    refine wp_seq_k ?_; intro K hK
    have hk4 : k < 4 := by omega
    refine zAc ?_
    refine zp E (zFw E rfl rfl rfl rfl rfl rfl rfl (by omega) (v := .int .i64 (plc n k)) (by rcases (show k = 0 ∨ k = 1 ∨ k = 2 ∨ k = 3 by omega) with rfl | rfl | rfl | rfl <;> rfl)) ?_; clear E a; intro a E
    refine zAo rfl (zCc E S rfl rfl (by decide) rfl rfl rfl ?_); clear E S a; intro a w b10 E S
    refine zAo rfl (zBg E S rfl rfl rfl rfl rfl rfl (by repeat (first | exact pk1 | apply zAa)) (by first | exact Nat.le_of_ble_eq_true rfl | (simp; done) | (simp; omega)) ?_); clear E S a; intro a w E S; try dsimp only [List.set] at S
    refine wpList_nil ?_
    refine zAh hK ?_; clear hK; clear K
    refine zAc ?_
    refine zp E (zAe E rfl rfl) ?_; clear E a; intro a E
    refine zp E (zEp E rfl rfl ⟨_, rfl⟩) ?_; clear E a; intro a E
    refine zAo rfl (zCk (cells := [_]) E S rfl rfl (by decide) rfl rfl rfl rfl rfl (by decide) rfl ?_); clear E S a; intro a w b42 E S
    refine zAo rfl (zCi (by' := 8) E S rfl rfl (by decide) rfl rfl hFC (by repeat (first | exact pk1 | apply zAa)) ((rd1f _ _ rfl _).src (S.stab.at (by repeat (first | exact mm1 | assumption | apply List.Mem.tail))) rfl) rfl rfl rfl rfl rfl rfl (by simp only [maxLen]; omega) (by omega) ?_); clear E S a; intro a w v43 C43 E S hB43
    refine zp E (zAg E rfl rfl) ?_; clear E a; intro a E
    refine wpList_nil ?_
    refine zBf ?_
    refine zAh hK ?_; clear hK; clear K
    refine zAc ?_
    refine zp E (zBu E rfl rfl rfl (by first | exact zCj (y := 1) (by omega) | exact w_in (by omega) | exact zBy (by omega) | exact rfl)) ?_; clear E a; intro a E
    refine zp E (zAe E rfl rfl) ?_; clear E a; intro a E
    refine wpList_nil ?_
    refine zBe ?_
    exact ⟨_, by omega, k + 1, bs ++ [b10], G ++ [(b10, cel [.int .i64 (plc n k)] 3)], C43, v43, rfl, by omega, by simp [hbs], fun j h => by
      rw [List.length_append, List.length_singleton] at h
      by_cases hj : j < bs.length
      · rw [List.getElem_append_left hj]; exact List.mem_append_left _ (hG j hj)
      · obtain rfl : j = bs.length := by omega
        simp [hbs], by rw [List.map_append, ← List.append_assoc, ← Nat.add_assoc]; exact hB43, ⟨_, (S.gather (A := G) (B := [(b10, cel [.int .i64 (plc n k)] 3)]) (by repeat (first | exact pk1 | apply zAa)) (by repeat (first | exact pk1 | apply zAa))).front8 (A := C43) (by repeat (first | exact pk1 | apply zAa)) (B := G ++ [(b10, cel [.int .i64 (plc n k)] 3)]) (by repeat (first | exact pk1 | apply zAa)) (C := C) (by repeat (first | exact pk1 | apply zAa)) (D := D) (by repeat (first | exact pk1 | apply zAa)) (F := [(b6, _)]) (by repeat (first | exact pk1 | apply zAa)) (G := [(b3, _)]) (by repeat (first | exact pk1 | apply zAa)) (I := [(b2, _)]) (by repeat (first | exact pk1 | apply zAa)) (J := O) (by repeat (first | exact pk1 | apply zAa))⟩, E.keep (zAb rfl (zAb rfl (zAb rfl (zAb rfl (zAb rfl (zAb rfl zAp))))))⟩
  · replace hb := Nrm.nrm hb
    refine wp_exit ?_
    refine zBb ?_; clear hK; clear K
    refine zBb ?_
    refine zCm ?_
    refine zAh hK ?_; clear hK; clear K
    refine wp_seq_k ?_; intro K hK
    obtain rfl : k = 4 := by omega
    refine zAc ?_
    refine zp E (zAe E rfl rfl) ?_; clear E a; intro a E
    refine zp E (by first | exact zAn E rfl rfl rfl (S.get (by repeat (first | exact pk1 | apply zAa))) rfl | exact zAj E rfl rfl rfl (by assumption)) ?_; clear E a; intro a E
    refine zp E (rn_bound E rfl rfl ⟨_, rfl⟩) ?_; clear E a; intro a E
    refine zAo rfl (zCk (cells := [_]) E S rfl rfl (by decide) rfl rfl rfl rfl rfl (by decide) rfl ?_); clear E S a; intro a w b48 E S
    refine zAo rfl (zCi (by' := 8) E S rfl rfl (by decide) rfl rfl hFC (by repeat (first | exact pk1 | apply zAa)) ((rd1f _ _ rfl _).src (S.stab.at (by repeat (first | exact mm1 | assumption | apply List.Mem.tail))) rfl) rfl rfl rfl rfl rfl rfl (by simp only [maxLen]; omega) (by omega) ?_); clear E S a; intro a w v49 C49 E S hB49
    refine zp E (zAg E rfl rfl) ?_; clear E a; intro a E
    refine wpList_nil ?_
    have hFA : Buf C49 56 1 v49 7 (stepsV b2 b6 x.d bs) := hB49
    obtain ⟨af, cf, rfl⟩ := hFA.slice
    obtain ⟨gf, rfl⟩ := hFA.addr (by omega)
    refine zAh hK ?_; clear hK; clear K
    iterate 2 (refine wp_seq_k ?_; intro K hK)
    refine zAc ?_
    refine zp E (zAe E rfl rfl) ?_; clear E a; intro a E
    refine zp E (by first | exact zCa E rfl rfl rfl | exact zBa E rfl rfl rfl | exact zAt E rfl rfl rfl) ?_; clear E a; intro a E
    refine zp E (zAe E rfl rfl) ?_; clear E a; intro a E
    refine wpList_nil ?_
    refine zAh hK ?_; clear hK; clear K
    refine wp_block ?_
    refine wp_loop_ghost (fun (m : Nat) (a : Act) (w' : World) => ∃ (i : Nat) (R' : Rk) (C' : zAs), m = 7 - i ∧ i ≤ 7 ∧ RkC P R' C' ∧ ((i < 7 ∧ ∃ nw, Wrote R x (wk i) nw R') ∨ (i = 7 ∧ ∃ F, Wrote.Fl R x 296 F R')) ∧ (∃ Xs, St w0 [C, O] w' (C' :: C49 :: G :: D :: [(b6, cel [.slice add lb.length cd] 22)] :: [(b3, cel [.int .u64 l.pool, .slice (some ⟨ob, oo, none⟩) l.tops.length c, .int .i64 l.top, .int .i64 l.place] 77)] :: [(b2, cel [ptr x.d] 46)] :: O :: Xs)) ∧ Fr a 70 [(2, ptr b2), (3, ptr b3), (50, .slice (some ⟨gf, 0, none⟩) 7 cf), (51, .int .i64 (7 : Nat)), (52, .int .i64 i)]) (7 - 0) ?_ ?_
    · exact ⟨0, R, C, rfl, by omega, hC, .inl ⟨by omega, x.now, Wrote.zero hO hnd hx hxl.1⟩, ⟨_, S.front8 (A := C) (by repeat (first | exact pk1 | apply zAa)) (B := C49) (by repeat (first | exact pk1 | apply zAa)) (C := G) (by repeat (first | exact pk1 | apply zAa)) (D := D) (by repeat (first | exact pk1 | apply zAa)) (F := [(b6, _)]) (by repeat (first | exact pk1 | apply zAa)) (G := [(b3, _)]) (by repeat (first | exact pk1 | apply zAa)) (I := [(b2, _)]) (by repeat (first | exact pk1 | apply zAa)) (J := O) (by repeat (first | exact pk1 | apply zAa))⟩, E.keep (zAb rfl (zAb rfl (zAb rfl (zAb rfl (zAb rfl zAp)))))⟩
    clear E; clear a; (try clear S); rintro m a w ⟨i, R', C', rfl, hi, hC', hst, ⟨Xs, S⟩, E⟩
    refine wp_seq_k ?_; intro K hK
    refine zAc ?_
    refine zp E (zCb E rfl rfl rfl) ?_; clear E a; intro a E
    refine wpList_nil ?_
    refine zAh hK ?_; clear hK; clear K
    refine wp_seq_k ?_; intro K hK
    refine zBl E rfl (fun hb => ?_) (fun hb => ?_)
    · replace hb := Nrm.nrm hb
      refine wp_skip ?_
      refine zAh hK ?_; clear hK; clear K
      refine wp_seq_k ?_; intro K hK
      refine wp_block ?_
      refine wp_seq_k ?_; intro K hK
      have hi7 : i < 7 := by omega
      obtain ⟨-, nw, hW⟩ := hst.resolve_right (fun q => by omega)
      have hx' := hW.at hx
      obtain ⟨tw, htw1, htw2, htw3⟩ := hW.ws
      have hwk : wk i ≤ 296 := by unfold wk; split; omega; split <;> omega
      have hws' : R'.ws.length + 8192 ≤ 244335861110 := by rw [htw1, List.length_append]; omega
      have hwr' : R'.pw.wr ≤ 1000000000000000000 := by rw [hW.wr]; omega
      refine zAc ?_
      rcases (show i = 0 ∨ i = 1 ∨ (2 ≤ i ∧ i < 6) ∨ i = 6 by omega) with rfl | rfl | ⟨h2, h6⟩ | rfl
      · skip
        refine zp E (by first | exact zBk E rfl rfl rfl rfl rfl rfl (by omega) | exact zBn E rfl rfl rfl rfl rfl rfl (by omega) | exact zAx E rfl rfl rfl rfl rfl rfl (by omega)) ?_; clear E a; intro a E
        refine zp E (zAj E rfl rfl rfl (hFA.rd.cells (S.stab.at (by repeat (first | exact mm1 | assumption | apply List.Mem.tail))) rfl 0 (fm1 b2) rfl)) ?_; clear E a; intro a E
        refine zp E (zAg E rfl rfl) ?_; clear E a; intro a E
        refine wpList_nil ?_
        refine zAh hK ?_; clear hK; clear K
        refine wp_seq_k ?_; intro K hK
        refine zAc ?_
        refine zp E (zAe E rfl rfl) ?_; clear E a; intro a E
        refine zDu E rfl rfl (by decide) rfl rfl Tryz.func53 rfl (by kernel_rfl) rfl (format1_ret P R' C' hC' { x with now := nw } hx' hW.on hf hws' hwr' n hn (by omega) b2 _ (S.hp.sel (zAd (by repeat (first | exact pk1 | apply zAa)) (zAd (by repeat (first | exact pk1 | apply zAa)) (zAk _))))) ?_
        rintro v57 w ⟨rfl, nw2, R2, C2, hW2, hC2, hT'⟩; clear E a; intro a E
        have S := S.call2 (zAd (by repeat (first | exact pk1 | apply zAa)) (zAd (by repeat (first | exact pk1 | apply zAa)) (zAk _))) hT'; have hW := hW.more hW2
        refine zp E (zAg E rfl rfl) ?_; clear E a; intro a E
        refine wpList_nil ?_
        refine zAh hK ?_; clear hK; clear K
        refine wp_seq_k ?_; intro K hK
        refine zAc ?_
        refine zp E (zAe E rfl rfl) ?_; clear E a; intro a E
        refine zp E (by first | exact zCu E rfl rfl rfl | exact zAz E rfl rfl rfl rfl | exact zBj E rfl rfl rfl rfl | exact zBd E rfl rfl rfl) ?_; clear E a; intro a E
        refine wpList_nil ?_
        refine zAh hK ?_; clear hK; clear K
        refine zBt E rfl (rfl) ?_
        refine wp_skip ?_
        refine zBf ?_
        refine zAh hK ?_; clear hK; clear K
        refine zAc ?_
        refine zp E (zBu E rfl rfl rfl (by first | exact zCj (y := 1) (by omega) | exact w_in (by omega) | exact zBy (by omega) | exact rfl)) ?_; clear E a; intro a E
        refine zp E (zAe E rfl rfl) ?_; clear E a; intro a E
        refine wpList_nil ?_
        refine zBe ?_
        exact ⟨_, by omega, 1, R2, C2, rfl, by omega, hC2, .inl ⟨by omega, _, hW⟩, ⟨_, S.front8 (A := C2) (by repeat (first | exact pk1 | apply zAa)) (B := C49) (by repeat (first | exact pk1 | apply zAa)) (C := G) (by repeat (first | exact pk1 | apply zAa)) (D := D) (by repeat (first | exact pk1 | apply zAa)) (F := [(b6, _)]) (by repeat (first | exact pk1 | apply zAa)) (G := [(b3, _)]) (by repeat (first | exact pk1 | apply zAa)) (I := [(b2, _)]) (by repeat (first | exact pk1 | apply zAa)) (J := O) (by repeat (first | exact pk1 | apply zAa))⟩, E.keep (zAb rfl (zAb rfl (zAb rfl (zAb rfl (zAb rfl zAp)))))⟩
      · skip
        refine zp E (by first | exact zBk E rfl rfl rfl rfl rfl rfl (by omega) | exact zBn E rfl rfl rfl rfl rfl rfl (by omega) | exact zAx E rfl rfl rfl rfl rfl rfl (by omega)) ?_; clear E a; intro a E
        refine zp E (zAj E rfl rfl rfl (hFA.rd.cells (S.stab.at (by repeat (first | exact mm1 | assumption | apply List.Mem.tail))) rfl 1 (fm2 b2) rfl)) ?_; clear E a; intro a E
        refine zp E (zAg E rfl rfl) ?_; clear E a; intro a E
        refine wpList_nil ?_
        refine zAh hK ?_; clear hK; clear K
        refine wp_seq_k ?_; intro K hK
        refine zAc ?_
        refine zp E (zAe E rfl rfl) ?_; clear E a; intro a E
        refine zDu E rfl rfl (by decide) rfl rfl Tryz.func55 rfl (by kernel_rfl) rfl (format2_ret P R' C' hC' { x with now := nw } hx' hW.on hf hws' hwr' n hn (by omega) b2 _ (S.hp.sel (zAd (by repeat (first | exact pk1 | apply zAa)) (zAd (by repeat (first | exact pk1 | apply zAa)) (zAk _))))) ?_
        rintro v57 w ⟨rfl, nw2, R2, C2, hW2, hC2, hT'⟩; clear E a; intro a E
        have S := S.call2 (zAd (by repeat (first | exact pk1 | apply zAa)) (zAd (by repeat (first | exact pk1 | apply zAa)) (zAk _))) hT'; have hW := hW.more hW2
        refine zp E (zAg E rfl rfl) ?_; clear E a; intro a E
        refine wpList_nil ?_
        refine zAh hK ?_; clear hK; clear K
        refine wp_seq_k ?_; intro K hK
        refine zAc ?_
        refine zp E (zAe E rfl rfl) ?_; clear E a; intro a E
        refine zp E (by first | exact zCu E rfl rfl rfl | exact zAz E rfl rfl rfl rfl | exact zBj E rfl rfl rfl rfl | exact zBd E rfl rfl rfl) ?_; clear E a; intro a E
        refine wpList_nil ?_
        refine zAh hK ?_; clear hK; clear K
        refine zBt E rfl (rfl) ?_
        refine wp_skip ?_
        refine zBf ?_
        refine zAh hK ?_; clear hK; clear K
        refine zAc ?_
        refine zp E (zBu E rfl rfl rfl (by first | exact zCj (y := 1) (by omega) | exact w_in (by omega) | exact zBy (by omega) | exact rfl)) ?_; clear E a; intro a E
        refine zp E (zAe E rfl rfl) ?_; clear E a; intro a E
        refine wpList_nil ?_
        refine zBe ?_
        exact ⟨_, by omega, 2, R2, C2, rfl, by omega, hC2, .inl ⟨by omega, _, hW⟩, ⟨_, S.front8 (A := C2) (by repeat (first | exact pk1 | apply zAa)) (B := C49) (by repeat (first | exact pk1 | apply zAa)) (C := G) (by repeat (first | exact pk1 | apply zAa)) (D := D) (by repeat (first | exact pk1 | apply zAa)) (F := [(b6, _)]) (by repeat (first | exact pk1 | apply zAa)) (G := [(b3, _)]) (by repeat (first | exact pk1 | apply zAa)) (I := [(b2, _)]) (by repeat (first | exact pk1 | apply zAa)) (J := O) (by repeat (first | exact pk1 | apply zAa))⟩, E.keep (zAb rfl (zAb rfl (zAb rfl (zAb rfl (zAb rfl zAp)))))⟩
      · skip
        obtain ⟨k, rfl⟩ : ∃ k, i = k + 2 := ⟨i - 2, by omega⟩
        refine zp E (by first | exact zBk E rfl rfl rfl rfl rfl rfl (by omega) | exact zBn E rfl rfl rfl rfl rfl rfl (by omega) | exact zAx E rfl rfl rfl rfl rfl rfl (by omega)) ?_; clear E a; intro a E
        refine zp E (zAj E rfl rfl rfl (hFA.rd.cells (S.stab.at (by repeat (first | exact mm1 | assumption | apply List.Mem.tail))) rfl (k + 2) _ (steps_mid b2 b6 x.d bs (by omega)))) ?_; clear E a; intro a E
        refine zp E (zAg E rfl rfl) ?_; clear E a; intro a E
        refine wpList_nil ?_
        refine zAh hK ?_; clear hK; clear K
        refine wp_seq_k ?_; intro K hK
        refine zAc ?_
        refine zp E (zAe E rfl rfl) ?_; clear E a; intro a E
        refine zDu E rfl rfl (by decide) rfl rfl Tryz.func57 rfl (by kernel_rfl) rfl (format3_ret P R' C' hC' { x with now := nw } hx' hW.on hf hws' hwr' n k hn (by omega) _ lb hbl D hD.rd ⟨_, _, rfl, hcd⟩ b2 bs[k] b6 G (hG k (by omega)) 22 _ (S.hp.sel (zAd (by repeat (first | exact pk1 | apply zAa)) (zAd (by repeat (first | exact pk1 | apply zAa)) (zAd (by repeat (first | exact pk1 | apply zAa)) (zAd (by repeat (first | exact pk1 | apply zAa)) (zAd (by repeat (first | exact pk1 | apply zAa)) (zAk _)))))))) ?_
        rintro v57 w ⟨rfl, nw2, R2, C2, hW2, hC2, hT'⟩; clear E a; intro a E
        have S := S.call (zAd (by repeat (first | exact pk1 | apply zAa)) (zAd (by repeat (first | exact pk1 | apply zAa)) (zAd (by repeat (first | exact pk1 | apply zAa)) (zAd (by repeat (first | exact pk1 | apply zAa)) (zAd (by repeat (first | exact pk1 | apply zAa)) (zAk _)))))) hT'; have hW := hW.more hW2
        refine zp E (zAg E rfl rfl) ?_; clear E a; intro a E
        refine wpList_nil ?_
        refine zAh hK ?_; clear hK; clear K
        refine wp_seq_k ?_; intro K hK
        refine zAc ?_
        refine zp E (zAe E rfl rfl) ?_; clear E a; intro a E
        refine zp E (by first | exact zCu E rfl rfl rfl | exact zAz E rfl rfl rfl rfl | exact zBj E rfl rfl rfl rfl | exact zBd E rfl rfl rfl) ?_; clear E a; intro a E
        refine wpList_nil ?_
        refine zAh hK ?_; clear hK; clear K
        refine zBt E rfl (rfl) ?_
        refine wp_skip ?_
        refine zBf ?_
        refine zAh hK ?_; clear hK; clear K
        refine zAc ?_
        refine zp E (zBu E rfl rfl rfl (by first | exact zCj (y := 1) (by omega) | exact w_in (by omega) | exact zBy (by omega) | exact rfl)) ?_; clear E a; intro a E
        refine zp E (zAe E rfl rfl) ?_; clear E a; intro a E
        refine wpList_nil ?_
        refine zBe ?_
        exact ⟨_, by omega, k + 2 + 1, R2, C2, rfl, by omega, hC2, .inl ⟨by omega, _, by rw [show wk (k + 2 + 1) = wk (k + 2) + 1 by simp [wk]; omega]; exact hW⟩, ⟨_, S.front8 (A := C2) (by repeat (first | exact pk1 | apply zAa)) (B := C49) (by repeat (first | exact pk1 | apply zAa)) (C := G) (by repeat (first | exact pk1 | apply zAa)) (D := D) (by repeat (first | exact pk1 | apply zAa)) (F := [(b6, _)]) (by repeat (first | exact pk1 | apply zAa)) (G := [(b3, _)]) (by repeat (first | exact pk1 | apply zAa)) (I := [(b2, _)]) (by repeat (first | exact pk1 | apply zAa)) (J := O) (by repeat (first | exact pk1 | apply zAa))⟩, E.keep (zAb rfl (zAb rfl (zAb rfl (zAb rfl (zAb rfl zAp)))))⟩
      · skip
        refine zp E (by first | exact zBk E rfl rfl rfl rfl rfl rfl (by omega) | exact zBn E rfl rfl rfl rfl rfl rfl (by omega) | exact zAx E rfl rfl rfl rfl rfl rfl (by omega)) ?_; clear E a; intro a E
        refine zp E (zAj E rfl rfl rfl (hFA.rd.cells (S.stab.at (by repeat (first | exact mm1 | assumption | apply List.Mem.tail))) rfl 6 _ (steps_last b2 b6 x.d bs hbs))) ?_; clear E a; intro a E
        refine zp E (zAg E rfl rfl) ?_; clear E a; intro a E
        refine wpList_nil ?_
        refine zAh hK ?_; clear hK; clear K
        refine wp_seq_k ?_; intro K hK
        refine zAc ?_
        refine zp E (zAe E rfl rfl) ?_; clear E a; intro a E
        refine list_callb E rfl rfl (by decide) rfl rfl Tryz.func58 rfl (by kernel_rfl) rfl (rk_flush P R' C' hC' { x with now := nw } hx' _ (S.hp.sel (zAd (by repeat (first | exact pk1 | apply zAa)) (zAk _)))) ?_
        rintro v57 w ⟨rfl, C2, hC2, hT'⟩; clear E a; intro a E
        have S := S.call1 (zAd (by repeat (first | exact pk1 | apply zAa)) (zAk _)) hT'; obtain ⟨h0, hFl⟩ := hW.flush hf; rw [h0] at E
        refine zp E (zAg E rfl rfl) ?_; clear E a; intro a E
        refine wpList_nil ?_
        refine zAh hK ?_; clear hK; clear K
        refine wp_seq_k ?_; intro K hK
        refine zAc ?_
        refine zp E (zAe E rfl rfl) ?_; clear E a; intro a E
        refine zp E (by first | exact zCu E rfl rfl rfl | exact zAz E rfl rfl rfl rfl | exact zBj E rfl rfl rfl rfl | exact zBd E rfl rfl rfl) ?_; clear E a; intro a E
        refine wpList_nil ?_
        refine zAh hK ?_; clear hK; clear K
        refine zBt E rfl (rfl) ?_
        refine wp_skip ?_
        refine zBf ?_
        refine zAh hK ?_; clear hK; clear K
        refine zAc ?_
        refine zp E (zBu E rfl rfl rfl (by first | exact zCj (y := 1) (by omega) | exact w_in (by omega) | exact zBy (by omega) | exact rfl)) ?_; clear E a; intro a E
        refine zp E (zAe E rfl rfl) ?_; clear E a; intro a E
        refine wpList_nil ?_
        refine zBe ?_
        exact ⟨_, by omega, 7, _, C2, rfl, by omega, hC2, .inr ⟨rfl, nw, hFl⟩, ⟨_, S.front8 (A := C2) (by repeat (first | exact pk1 | apply zAa)) (B := C49) (by repeat (first | exact pk1 | apply zAa)) (C := G) (by repeat (first | exact pk1 | apply zAa)) (D := D) (by repeat (first | exact pk1 | apply zAa)) (F := [(b6, _)]) (by repeat (first | exact pk1 | apply zAa)) (G := [(b3, _)]) (by repeat (first | exact pk1 | apply zAa)) (I := [(b2, _)]) (by repeat (first | exact pk1 | apply zAa)) (J := O) (by repeat (first | exact pk1 | apply zAa))⟩, E.keep (zAb rfl (zAb rfl (zAb rfl (zAb rfl (zAb rfl zAp)))))⟩
    · replace hb := Nrm.nrm hb
      refine wp_exit ?_
      refine zBb ?_; clear hK; clear K
      refine zBb ?_
      refine zCm ?_
      refine zAh hK ?_; clear hK; clear K
      refine wp_seq_k ?_; intro K hK
      obtain rfl : i = 7 := by omega
      obtain ⟨-, F, hFl⟩ := hst.resolve_left (fun q => by omega)
      refine zAc ?_
      refine zp E (by first | exact zAf (q := 1) E rfl rfl rfl | exact zAi (q := 1) E rfl rfl rfl) ?_; clear E a; intro a E
      refine zp E (by first | exact zAn E rfl rfl rfl (S.get (by repeat (first | exact pk1 | apply zAa))) rfl | exact zAj E rfl rfl rfl (by assumption)) ?_; clear E a; intro a E
      refine zAr E rfl rfl (by decide) rfl Tryz.func59 rfl (by kernel_rfl) rfl (tclone_ret O _ l.tops hT (by omega) _ (S.hp.sel (zAd (by repeat (first | exact pk1 | apply zAa)) (zAk _)))) ?_
      rintro v64 w ⟨CT, hCT, hT'⟩; clear E a; intro a E
      have S := S.call2 (zAd (by repeat (first | exact pk1 | apply zAa)) (zAk _)) hT'; obtain ⟨adt, ct, rfl⟩ := hCT.slice
      refine zp E (by first | exact zAf (q := 1) E rfl rfl rfl | exact zAi (q := 1) E rfl rfl rfl) ?_; clear E a; intro a E
      refine zAo rfl (zBg E S rfl rfl rfl rfl rfl rfl (by repeat (first | exact pk1 | apply zAa)) (by first | exact Nat.le_of_ble_eq_true rfl | (simp; done) | (simp; omega)) ?_); clear E S a; intro a w E S; try dsimp only [List.set] at S
      refine wpList_nil ?_
      refine zAh hK ?_; clear hK; clear K
      refine wp_seq_k ?_; intro K hK
      refine zAc ?_
      refine zp E (by first | exact zAn E rfl rfl rfl (S.get (by repeat (first | exact pk1 | apply zAa))) rfl | exact zAj E rfl rfl rfl (by assumption)) ?_; clear E a; intro a E
      refine zp E (zBw (vs := [_, _, _, _]) E rfl rfl rfl (S.get (by repeat (first | exact pk1 | apply zAa))) rfl rfl) ?_; clear E a; intro a E
      refine zp E (zCo (cells := [_, _, _, _, _, _, _, _]) E rfl rfl rfl) ?_; clear E a; intro a E
      refine zAo rfl (zCs E S rfl rfl (by decide) rfl rfl ?_); clear E S a; intro a w b69 E S
      iterate 2 (refine zp E (zAg E rfl rfl) ?_; clear E a; intro a E)
      refine wpList_nil ?_
      refine zAh hK ?_; clear hK; clear K
      refine wp_ret ?_
      refine ret2 E rfl rfl rfl ?_
      exact ⟨_, rfl, b69, _, R', C', F, rfl, ⟨_, _, _, _, 0, 0, 0, rfl⟩, hC', hFl, (S.only (Bs := [[(b69, _)], C', O]) (zAd (by repeat (first | exact pk1 | apply zAa)) (zAd (by repeat (first | exact pk1 | apply zAa)) (zAd (by repeat (first | exact pk1 | apply zAa)) (zAk _))))).tr⟩
end Go.Proofs.YtidhehcjafoneaaGreatDoor
