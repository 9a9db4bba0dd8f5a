/-
  Texts put together (14).
-/
import Derived.Test.YtbogecljkaimdaaGreatDoorZRecordStreams13
namespace Go.Sl
theorem form_step (n k : Nat) : zBy n (k + 1) = zBy n k ++ [UInt8.ofNat (n / 256 ^ k % 256)] := by
  rw [zBy]
  congr 2
  have : (2 : Nat) ^ (8 * k) = 256 ^ k := by rw [Nat.pow_mul]
  rw [this]
  apply UInt8.toNat_inj.1
  simp
theorem div_step (n k : Nat) : n / 256 ^ k / 256 = n / 256 ^ (k + 1) := by rw [Nat.div_div_eq_div_mul, Nat.pow_succ]
theorem w8m (n : Nat) : IntKind.u8.wrap ((n % 256 : Nat) : Int) = ((UInt8.ofNat (n % 256)).toNat : Int) := w8 _
theorem divle (n k : Nat) : n / 256 ^ k ≤ n := Nat.div_le_self _ _
end Go.Sl
namespace Go.Proofs.YtbogecljkaimdaaGreatDoor
open Go.Sl
set_option maxRecDepth 10000
abbrev BB (C : zAy) (v : Value) (bs : List UInt8) : Prop := Buf C 5 1 v bs.length (byt bs)
theorem zJl {C : zAy} {v : Value} {xs ys : List UInt8} (h : Buf C 5 1 v (xs.length + ys.length) (byt xs ++ byt ys)) : BB C v (xs ++ ys) := by
  show Buf C _ 1 v (xs ++ ys).length _
  rw [List.length_append, zDu]; exact h
theorem zCy {C : zAy} {v : Value} {bs : List UInt8} (hB : BB C v bs) (hl : bs.length ≤ 140737488300000) (z : Int) (hz : 0 ≤ z) (hz2 : z ≤ 9223372036854775807) (size : Nat) (h8 : size ≤ 8) (As : List zAy) (w0 : World) (H : Hp w0 (C :: As)) :
    Ret Tryz.prog 39 #[v, .int .i64 z, .int .i64 size] w0 fun u w' => ∃ C', BB C' u (bs ++ zBy z.toNat size) ∧ Trs w0 w' (C :: As) (C' :: As) := by
  have S := St.begin H
  obtain ⟨n, rfl⟩ : ∃ n : Nat, z = n := ⟨z.toNat, by omega⟩
  refine zGk 22 Tryz.func39 rfl rfl (by decide) ?_; intro a E
  refine wp_seq_k ?_; intro K hK
  refine zAb ?_
  refine zp E (zAd E rfl rfl) ?_; clear E a; intro a E
  refine wpList_nil ?_
  refine zAf hK ?_; clear hK; clear K
  iterate 2 (refine wp_seq_k ?_; intro K hK)
  refine zAb ?_
  refine zp E (zAd E rfl rfl) ?_; clear E a; intro a E
  refine wpList_nil ?_
  refine zAf hK ?_; clear hK; clear K
  refine wp_block ?_
  refine wp_loop_ghost (fun (m : Nat) (a : Act) (w' : World) => ∃ (i : Nat) (C' : zAy) (v' : Value), m = size - i ∧ i ≤ size ∧ BB C' v' (bs ++ zBy n i) ∧ St w0 (C :: As) w' (C' :: As) ∧ Fr a 22 [(0, v'), (1, .int .i64 (n / 256 ^ i : Nat)), (2, .int .i64 size), (6, nilv), (7, .int .i64 i)]) (size) ?_ ?_
  · exact ⟨0, C, v, by omega, by omega, by rw [zBy, List.append_nil]; exact hB, S, by rw [Nat.pow_zero, Nat.div_one]; exact E.keep (zAa rfl (zAa rfl (zAa rfl (zAa rfl (zAa rfl zAm)))))⟩
  clear E; clear a; (try clear S); rintro m a w ⟨i, C', v', rfl, hi, hB', S, E⟩
  iterate 2 (refine wp_seq_k ?_; intro K hK)
  refine zAb ?_
  iterate 2 (refine zp E (zAe E rfl rfl) ?_; clear E a; intro a E)
  refine zp E (zCn E rfl rfl rfl) ?_; clear E a; intro a E
  refine wpList_nil ?_
  refine zAf hK ?_; clear hK; clear K
  refine zBf E rfl (fun hb => ?_) (fun hb => ?_)
  · replace hb := Nrm.nrm hb
    refine wp_skip ?_
    refine zAf hK ?_; clear hK; clear K
    refine wp_seq_k ?_; intro K hK
    refine wp_block ?_
    refine wp_seq_k ?_; intro K hK
    have hd := divle n i
    have hst := form_step n i
    have hdv := div_step n i
    have hbl : (bs ++ zBy n i).length = bs.length + i := by rw [List.length_append, zBh]
    obtain ⟨d, hd2⟩ : ∃ d, d = n / 256 ^ i := ⟨_, rfl⟩
    rw [← hd2] at E hd hst hdv
    obtain ⟨cs, hcs⟩ : ∃ cs, cs = bs ++ zBy n i := ⟨_, rfl⟩
    rw [← hcs] at hB' hbl
    refine zAb ?_
    iterate 2 (refine zp E (zAe E rfl rfl) ?_; clear E a; intro a E)
    refine zp E (rn_rem E rfl rfl rfl (by first | decide | omega) (wr_lit (x := d) (y := 256))) ?_; clear E a; intro a E
    refine zp E (zBe E rfl rfl rfl rfl (w8m d)) ?_; clear E a; intro a E
    refine zAn rfl (zDg (cells := [_]) E S rfl rfl (by decide) rfl rfl rfl rfl rfl (by decide) rfl ?_); clear E S a; intro a w b17 E S
    refine zAn rfl (zCq (by' := 1) E S rfl rfl (by decide) rfl rfl hB' (by repeat (first | exact pk1 | apply zAc)) ((zEp (g := b17) (T := 5) (xs := [.int .u8 (UInt8.ofNat (d % 256)).toNat]) (s := 1) (m := 1) rfl (by simp [Value.oneCell']) (by omega) 1).src (S.stab.at (by repeat (first | exact mm1 | assumption | apply List.Mem.tail))) rfl) rfl rfl rfl rfl rfl rfl (by simp only [maxLen]; omega) (by omega) ?_); clear E S a; intro a w v18 C18 E S hB18
    refine zp E (zAd E rfl rfl) ?_; clear E a; intro a E
    refine wpList_nil ?_
    refine zAf hK ?_; clear hK; clear K
    refine zAb ?_
    refine zp E (zAe E rfl rfl) ?_; clear E a; intro a E
    refine zp E (rn_quo E rfl rfl rfl (by decide) (by first | exact wq_lit (y := 256) (by omega) | exact wq_litu (y := 256) (by omega) | exact rfl)) ?_; clear E a; intro a E
    refine zp E (zAd E rfl rfl) ?_; clear E a; intro a E
    refine wpList_nil ?_
    refine zBi ?_
    refine zAf hK ?_; clear hK; clear K
    refine zAb ?_
    refine zp E (zAe E rfl rfl) ?_; clear E a; intro a E
    refine zp E (zBu E rfl rfl rfl (by first | exact zCl (y := 1) (by omega) | exact w_in (by omega) | exact zBt (by omega) | exact rfl)) ?_; clear E a; intro a E
    refine zp E (zAd E rfl rfl) ?_; clear E a; intro a E
    refine wpList_nil ?_
    refine zBq ?_
    have hB2 : BB C18 v18 (cs ++ [UInt8.ofNat (d % 256)]) := zJl hB18
    exact ⟨_, by omega, i + 1, C18, v18, rfl, by omega, by rw [hst, ← List.append_assoc, ← hcs]; exact hB2, S.perm2.tail, by rw [← hdv]; exact E.keep (zAa rfl (zAa rfl (zAa rfl (zAa rfl (zAa rfl zAm)))))⟩
  · replace hb := Nrm.nrm hb
    refine wp_exit ?_
    refine zBc ?_; clear hK; clear K
    refine zBc ?_
    refine zCj ?_
    refine zAf hK ?_; clear hK; clear K
    refine wp_seq_k ?_; intro K hK
    refine zAb ?_
    refine zp E (zAe E rfl rfl) ?_; clear E a; intro a E
    refine zp E (zAd E rfl rfl) ?_; clear E a; intro a E
    refine wpList_nil ?_
    refine zAf hK ?_; clear hK; clear K
    refine wp_ret ?_
    refine ret1 E rfl rfl ?_
    obtain rfl : i = size := by omega
    exact ⟨_, rfl, C', by rw [Int.toNat_natCast]; exact hB', S.tr⟩
theorem zGx {C : zAy} {v : Value} {bs : List UInt8} (hB : BB C v bs) (t : List UInt8) (hl : bs.length + t.length ≤ 140737488200000) (As : List zAy) (w0 : World) (H : Hp w0 (C :: As)) :
    Ret Tryz.prog 81 #[v, str t] w0 fun u w' => ∃ C', BB C' u (bs ++ txt t) ∧ Trs w0 w' (C :: As) (C' :: As) := by
  have S := St.begin H
  refine zCr 12 Tryz.func81 rfl rfl (by decide) ?_; intro a E
  refine wp_seq_k ?_; intro K hK
  refine zAb ?_
  refine zp E (zAd E rfl rfl) ?_; clear E a; intro a E
  refine wpList_nil ?_
  refine zAf hK ?_; clear hK; clear K
  refine wp_seq_k ?_; intro K hK
  refine zAb ?_
  iterate 2 (refine zp E (zAe E rfl rfl) ?_; clear E a; intro a E)
  refine zp E (by first | exact zBx E rfl rfl rfl | exact zAx E rfl rfl rfl | exact zAq E rfl rfl rfl) ?_; clear E a; intro a E
  refine zAp E rfl rfl (by decide) rfl Tryz.func39 rfl (by kernel_rfl) rfl (zCy hB (by omega) t.length (by omega) (by omega) 2 (by omega) _ _ S.hp) ?_
  rintro v8 w ⟨C', hB', hT⟩; clear E a; intro a E
  have S := S.all hT
  refine zp E (zAd E rfl rfl) ?_; clear E a; intro a E
  refine wpList_nil ?_
  refine zAf hK ?_; clear hK; clear K
  refine wp_seq_k ?_; intro K hK
  rw [Int.toNat_natCast] at hB'
  have hbl : (bs ++ zBy t.length 2).length = bs.length + 2 := by rw [List.length_append, zBh]
  refine zAb ?_
  iterate 2 (refine zp E (zAe E rfl rfl) ?_; clear E a; intro a E)
  refine zAn rfl (zCq (by' := 1) E S rfl rfl (by decide) rfl rfl hB' (by repeat (first | exact pk1 | apply zAc)) (src_str rfl t _) rfl rfl rfl rfl rfl rfl (by simp only [maxLen]; omega) (by omega) ?_); clear E S a; intro a w v11 C11 E S hB11
  refine zp E (zAd E rfl rfl) ?_; clear E a; intro a E
  refine wpList_nil ?_
  refine zAf hK ?_; clear hK; clear K
  refine wp_ret ?_
  refine ret1 E rfl rfl ?_
  exact ⟨_, rfl, C11, by rw [txt, ← List.append_assoc]; exact zJl hB11, S.tr⟩
theorem usealb_ret (s : Fs) (As : List zAy) (w0 : World) (H : Hp w0 As) (hok : s.Ok) :
    Ret Tryz.prog 40 #[s.agg] w0 fun u w' => ∃ C, BB C u (zFa s) ∧ Trs w0 w' As (C :: As) := by
  have S := St.begin H
  obtain ⟨ws, hws⟩ : ∃ ws, ws = s.ws := ⟨_, rfl⟩
  have hwl : ws.length = 4 := by rw [hws]; rfl
  have hwc : u64n ws = [.int .u64 s.a, .int .u64 s.b, .int .u64 s.c, .int .u64 s.d] := by rw [hws]; rfl
  have hwb : ∀ n ∈ ws, n < 18446744073709551616 := by
    obtain ⟨h1, h2, h3, h4⟩ := hok
    rw [hws]; simp only [Fs.ws, List.mem_cons, List.not_mem_nil, or_false]
    rintro n (rfl | rfl | rfl | rfl) <;> assumption
  refine zCx 38 Tryz.func40 rfl rfl (by decide) ?_; intro a E
  refine wp_seq_k ?_; intro K hK
  refine zAb ?_
  refine zAn rfl (zCt E S rfl rfl (by decide) rfl rfl ?_); clear E S a; intro a w b1 E S
  refine zp E (zAd E rfl rfl) ?_; clear E a; intro a E
  refine wpList_nil ?_
  refine zAf hK ?_; clear hK; clear K
  refine wp_seq_k ?_; intro K hK
  refine zAb ?_
  refine zp E (zAd E rfl rfl) ?_; clear E a; intro a E
  refine wpList_nil ?_
  refine zAf hK ?_; clear hK; clear K
  refine wp_seq_k ?_; intro K hK
  refine zAb ?_
  refine zp E (by first | exact zAg (q := 0) E rfl rfl rfl | exact zAh (q := 0) E rfl rfl rfl) ?_; clear E a; intro a E
  refine zp E (by first | exact zAo E rfl rfl rfl (S.get (by repeat (first | exact pk1 | apply zAc))) rfl | exact zAj E rfl rfl rfl (by assumption)) ?_; clear E a; intro a E
  refine zp E (by first | exact zAg (q := 1) E rfl rfl rfl | exact zAh (q := 1) E rfl rfl rfl) ?_; clear E a; intro a E
  refine zp E (by first | exact zAo E rfl rfl rfl (S.get (by repeat (first | exact pk1 | apply zAc))) rfl | exact zAj E rfl rfl rfl (by assumption)) ?_; clear E a; intro a E
  refine zp E (by first | exact zAg (q := 2) E rfl rfl rfl | exact zAh (q := 2) E rfl rfl rfl) ?_; clear E a; intro a E
  refine zp E (by first | exact zAo E rfl rfl rfl (S.get (by repeat (first | exact pk1 | apply zAc))) rfl | exact zAj E rfl rfl rfl (by assumption)) ?_; clear E a; intro a E
  refine zp E (by first | exact zAg (q := 3) E rfl rfl rfl | exact zAh (q := 3) E rfl rfl rfl) ?_; clear E a; intro a E
  refine zp E (by first | exact zAo E rfl rfl rfl (S.get (by repeat (first | exact pk1 | apply zAc))) rfl | exact zAj E rfl rfl rfl (by assumption)) ?_; clear E a; intro a E
  refine zAn rfl (zDg (cells := [_, _, _, _]) E S rfl rfl (by decide) rfl rfl rfl rfl rfl (by decide) rfl ?_); clear E S a; intro a w b16 E S
  rw [← hwc] at S
  refine zp E (zAd E rfl rfl) ?_; clear E a; intro a E
  refine wpList_nil ?_
  refine zAf hK ?_; clear hK; clear K
  iterate 2 (refine wp_seq_k ?_; intro K hK)
  refine zAb ?_
  refine zp E (zAd E rfl rfl) ?_; clear E a; intro a E
  refine wpList_nil ?_
  refine zAf hK ?_; clear hK; clear K
  refine wp_block ?_
  refine wp_loop_ghost (fun (m : Nat) (a : Act) (w' : World) => ∃ (i : Nat) (C : zAy) (v : Value), m = 4 - i ∧ i ≤ 4 ∧ BB C v (zGv (ws.take i)) ∧ St w0 As w' (C :: [(b16, cel (u64n ws) 27)] :: As) ∧ Fr a 38 [(2, nilv), (3, v), (4, .slice (some ⟨b16, 0, none⟩) 4 4), (5, .int .i64 i)]) (4) ?_ ?_
  · exact ⟨0, [], _, by omega, by omega, Buf.nil _ _, S.perm2.tail.addNil, E.keep (zAa rfl (zAa rfl (zAa rfl (zAa rfl zAm))))⟩
  clear E; clear a; (try clear S); rintro m a w ⟨i, C, v, rfl, hi, hB, S, E⟩
  iterate 2 (refine wp_seq_k ?_; intro K hK)
  refine zAb ?_
  refine zp E (zAe E rfl rfl) ?_; clear E a; intro a E
  refine zp E (zCn E rfl rfl rfl) ?_; clear E a; intro a E
  refine wpList_nil ?_
  refine zAf hK ?_; clear hK; clear K
  refine zBf E rfl (fun hb => ?_) (fun hb => ?_)
  · replace hb := Nrm.nrm hb
    refine wp_skip ?_
    refine zAf hK ?_; clear hK; clear K
    refine wp_seq_k ?_; intro K hK
    refine wp_block ?_
    refine wp_seq_k ?_; intro K hK
    have hil : i < ws.length := by omega
    have hwi := hwb _ (List.getElem_mem hil)
    refine zAb ?_
    iterate 2 (refine zp E (zAe E rfl rfl) ?_; clear E a; intro a E)
    refine zp E (by first | exact zBl E rfl rfl rfl rfl rfl rfl (by omega) | exact zBv E rfl rfl rfl rfl rfl rfl (by omega) | exact zBj E rfl rfl rfl rfl rfl rfl (by omega)) ?_; clear E a; intro a E
    refine zp E (zAj E rfl rfl rfl (by rw [Nat.zero_add]; exact zDf (S.get (by repeat (first | exact pk1 | apply zAc))) (u64n_at hil))) ?_; clear E a; intro a E
    refine zp E (zAd E rfl rfl) ?_; clear E a; intro a E
    refine wpList_nil ?_
    refine zAf hK ?_; clear hK; clear K
    refine wp_seq_k ?_; intro K hK
    refine zAb ?_
    refine zp E (zAd E rfl rfl) ?_; clear E a; intro a E
    refine wpList_nil ?_
    refine zAf hK ?_; clear hK; clear K
    refine wp_block ?_
    refine wp_loop_ghost (fun (m : Nat) (a : Act) (w' : World) => ∃ (j : Nat) (C : zAy) (v : Value), m = 8 - j ∧ j ≤ 8 ∧ BB C v (zGv (ws.take i) ++ zBy ws[i] j) ∧ St w0 As w' (C :: [(b16, cel (u64n ws) 27)] :: As) ∧ Fr a 38 [(2, nilv), (3, v), (4, .slice (some ⟨b16, 0, none⟩) 4 4), (5, .int .i64 i), (6, .int .u64 (ws[i] / 256 ^ j : Nat)), (7, .int .i64 j)]) (8) ?_ ?_
    · exact ⟨0, C, v, by omega, by omega, by simpa [zBy] using hB, S, by rw [Nat.pow_zero, Nat.div_one]; exact E.keep (zAa rfl (zAa rfl (zAa rfl (zAa rfl (zAa rfl (zAa rfl zAm))))))⟩
    clear E; clear a; (try clear S); rintro m a w ⟨j, C, v, rfl, hj, hB, S, E⟩
    iterate 2 (refine wp_seq_k ?_; intro K hK)
    refine zAb ?_
    refine zp E (zAe E rfl rfl) ?_; clear E a; intro a E
    refine zp E (zCn E rfl rfl rfl) ?_; clear E a; intro a E
    refine wpList_nil ?_
    refine zAf hK ?_; clear hK; clear K
    refine zBf E rfl (fun hb => ?_) (fun hb => ?_)
    · replace hb := Nrm.nrm hb
      refine wp_skip ?_
      refine zAf hK ?_; clear hK; clear K
      refine wp_seq_k ?_; intro K hK
      refine wp_block ?_
      refine wp_seq_k ?_; intro K hK
      have hd := divle ws[i] j
      have hst := form_step ws[i] j
      have hdv := div_step ws[i] j
      have hbl : (zGv (ws.take i) ++ zBy ws[i] j).length = 8 * i + j := by rw [List.length_append, zBh, zIv, List.length_take, Nat.min_eq_left (by omega)]
      obtain ⟨d, hd2⟩ : ∃ d, d = ws[i] / 256 ^ j := ⟨_, rfl⟩
      rw [← hd2] at E hd hst hdv
      obtain ⟨cs, hcs⟩ : ∃ cs, cs = zGv (ws.take i) ++ zBy ws[i] j := ⟨_, rfl⟩
      rw [← hcs] at hB hbl
      refine zAb ?_
      iterate 2 (refine zp E (zAe E rfl rfl) ?_; clear E a; intro a E)
      refine zp E (rn_rem E rfl rfl rfl (by first | decide | omega) (wr_lit (x := d) (y := 256))) ?_; clear E a; intro a E
      refine zp E (zBe E rfl rfl rfl rfl (w8m d)) ?_; clear E a; intro a E
      refine zAn rfl (zDg (cells := [_]) E S rfl rfl (by decide) rfl rfl rfl rfl rfl (by decide) rfl ?_); clear E S a; intro a w b33 E S
      refine zAn rfl (zCq (by' := 1) E S rfl rfl (by decide) rfl rfl hB (by repeat (first | exact pk1 | apply zAc)) ((zEp (g := b33) (T := 5) (xs := [.int .u8 (UInt8.ofNat (d % 256)).toNat]) (s := 1) (m := 1) rfl (by simp [Value.oneCell']) (by omega) 1).src (S.stab.at (by repeat (first | exact mm1 | assumption | apply List.Mem.tail))) rfl) rfl rfl rfl rfl rfl rfl (by simp only [maxLen]; omega) (by omega) ?_); clear E S a; intro a w v34 C34 E S hB34
      refine zp E (zAd E rfl rfl) ?_; clear E a; intro a E
      refine wpList_nil ?_
      refine zAf hK ?_; clear hK; clear K
      refine zAb ?_
      refine zp E (zAe E rfl rfl) ?_; clear E a; intro a E
      refine zp E (rn_quo E rfl rfl rfl (by decide) (by first | exact wq_lit (y := 256) (by omega) | exact wq_litu (y := 256) (by omega) | exact rfl)) ?_; clear E a; intro a E
      refine zp E (zAd E rfl rfl) ?_; clear E a; intro a E
      refine wpList_nil ?_
      refine zBi ?_
      refine zAf hK ?_; clear hK; clear K
      refine zAb ?_
      refine zp E (zAe E rfl rfl) ?_; clear E a; intro a E
      refine zp E (zBu E rfl rfl rfl (by first | exact zCl (y := 1) (by omega) | exact w_in (by omega) | exact zBt (by omega) | exact rfl)) ?_; clear E a; intro a E
      refine zp E (zAd E rfl rfl) ?_; clear E a; intro a E
      refine wpList_nil ?_
      refine zBq ?_
      have hB2 : BB C34 v34 (cs ++ [UInt8.ofNat (d % 256)]) := zJl hB34
      exact ⟨_, by omega, j + 1, C34, v34, rfl, by omega, by rw [hst, ← List.append_assoc, ← hcs]; exact hB2, S.perm2.tail, by rw [← hdv]; exact E.keep (zAa rfl (zAa rfl (zAa rfl (zAa rfl (zAa rfl (zAa rfl zAm))))))⟩
    · replace hb := Nrm.nrm hb
      refine wp_exit ?_
      refine zBc ?_; clear hK; clear K
      refine zBc ?_
      refine zCj ?_
      refine zBi ?_
      refine zAf hK ?_; clear hK; clear K
      refine zAb ?_
      refine zp E (zAe E rfl rfl) ?_; clear E a; intro a E
      refine zp E (zBu E rfl rfl rfl (by first | exact zCl (y := 1) (by omega) | exact w_in (by omega) | exact zBt (by omega) | exact rfl)) ?_; clear E a; intro a E
      refine zp E (zAd E rfl rfl) ?_; clear E a; intro a E
      refine wpList_nil ?_
      refine zBq ?_
      obtain rfl : j = 8 := by omega
      exact ⟨_, by omega, i + 1, C, v, rfl, by omega, by rw [zKw hil]; exact hB, S, E.keep (zAa rfl (zAa rfl (zAa rfl (zAa rfl zAm))))⟩
  · replace hb := Nrm.nrm hb
    refine wp_exit ?_
    refine zBc ?_; clear hK; clear K
    refine zBc ?_
    refine zCj ?_
    refine zAf hK ?_; clear hK; clear K
    refine wp_seq_k ?_; intro K hK
    refine zAb ?_
    refine zp E (zAe E rfl rfl) ?_; clear E a; intro a E
    refine zp E (zAd E rfl rfl) ?_; clear E a; intro a E
    refine wpList_nil ?_
    refine zAf hK ?_; clear hK; clear K
    refine wp_ret ?_
    refine ret1 E rfl rfl ?_
    obtain rfl : i = 4 := by omega
    rw [List.take_of_length_le (by omega), hws] at hB
    exact ⟨_, rfl, C, hB, S.perm2.tail.tr⟩
theorem usealed_ret (k : Nat) (hk : k ≤ 255) {D : zAy} {v : Value} {b : List UInt8} (hD : Rd D 1 v b.length (byt b)) (hbl : b.length ≤ 140737488000000) (s : Fs) (hok : s.Ok) {As : List zAy} (mD : D ∈ As) (hG0 : Tab As 0 sha0.l) (hG1 : Tab As 1 shaK) (w0 : World) (H : Hp w0 As) :
    Ret Tryz.prog 18 #[.int .i64 k, v, s.agg] w0 fun u w' => ∃ v' C, u = .tuple #[v', (ownS k b s).agg] ∧ BB C v' (zDc k b s) ∧ Trs w0 w' As (C :: As) := by
  have S := St.begin H
  obtain ⟨ad, c, rfl⟩ := hD.slice
  have hsl := zEe s
  refine zGk 37 Tryz.func18 rfl rfl (by decide) ?_; intro a E
  refine wp_seq_k ?_; intro K hK
  refine zAb ?_
  refine zAn rfl (zCt E S rfl rfl (by decide) rfl rfl ?_); clear E S a; intro a w b5 E S
  refine zp E (zAd E rfl rfl) ?_; clear E a; intro a E
  refine zAn rfl (zBs E S rfl rfl (by decide) rfl rfl rfl ?_); clear E S a; intro a w b7 E S
  refine wpList_nil ?_
  refine zAf hK ?_; clear hK; clear K
  refine wp_seq_k ?_; intro K hK
  refine zAb ?_
  refine zp E (zAe E rfl rfl) ?_; clear E a; intro a E
  refine zp E (zBe E rfl rfl rfl rfl (w8 k)) ?_; clear E a; intro a E
  refine zAn rfl (zDg (cells := [_]) E S rfl rfl (by decide) rfl rfl rfl rfl rfl (by decide) rfl ?_); clear E S a; intro a w b14 E S
  refine zp E (zAd E rfl rfl) ?_; clear E a; intro a E
  refine wpList_nil ?_
  refine zAf hK ?_; clear hK; clear K
  refine wp_seq_k ?_; intro K hK
  have hB1 : BB [(b14, cel (byt [UInt8.ofNat k]) 5)] (.slice (some ⟨b14, 0, none⟩) 1 1) [UInt8.ofNat k] := zIr b14 [UInt8.ofNat k] 5 (by simp)
  refine zAb ?_
  iterate 2 (refine zp E (zAe E rfl rfl) ?_; clear E a; intro a E)
  refine zp E (by first | exact zBx E rfl rfl rfl | exact zAx E rfl rfl rfl | exact zAq E rfl rfl rfl) ?_; clear E a; intro a E
  refine zAp E rfl rfl (by decide) rfl Tryz.func39 rfl (by kernel_rfl) rfl (zCy hB1 (by simp) b.length (by omega) (by omega) 4 (by omega) _ _ S.hp) ?_
  rintro v18 w ⟨C2, hB2, hT⟩; clear E a; intro a E
  have S := S.all hT
  refine zp E (zAd E rfl rfl) ?_; clear E a; intro a E
  refine wpList_nil ?_
  refine zAf hK ?_; clear hK; clear K
  refine wp_seq_k ?_; intro K hK
  have hh : [UInt8.ofNat k] ++ zBy ((b.length : Int)).toNat 4 = headB k b.length := by simp [headB, zBy]
  rw [hh] at hB2
  have hhl := zHp k b.length
  refine zAb ?_
  iterate 2 (refine zp E (zAe E rfl rfl) ?_; clear E a; intro a E)
  refine zAn rfl (zCq (by' := 1) E S rfl rfl (by decide) rfl rfl hB2 (by repeat (first | exact pk1 | apply zAc)) (hD.src (S.stab.at (List.Mem.tail _ (List.Mem.tail _ (List.Mem.tail _ mD)))) rfl) rfl rfl rfl rfl rfl rfl (by simp only [maxLen]; omega) (by omega) ?_); clear E S a; intro a w v21 C21 E S hB21
  refine zp E (zAd E rfl rfl) ?_; clear E a; intro a E
  refine wpList_nil ?_
  refine zAf hK ?_; clear hK; clear K
  refine wp_seq_k ?_; intro K hK
  have hB3 : BB C21 v21 (zFq k b) := zJl hB21
  have hfl := zFd k b
  clear hB21
  refine zAb ?_
  refine zp E (zBp (vs := [_, _, _, _]) E rfl rfl rfl (S.get (by repeat (first | exact pk1 | apply zAc))) rfl rfl) ?_; clear E a; intro a E
  refine zAp E rfl rfl (by decide) rfl Tryz.func40 rfl (by kernel_rfl) rfl (usealb_ret s _ _ S.hp hok) ?_
  rintro v23 w ⟨C4, hB4, hT⟩; clear E a; intro a E
  have S := S.all hT
  refine zp E (zAd E rfl rfl) ?_; clear E a; intro a E
  refine wpList_nil ?_
  refine zAf hK ?_; clear hK; clear K
  refine wp_seq_k ?_; intro K hK
  refine zAb ?_
  iterate 2 (refine zp E (zAe E rfl rfl) ?_; clear E a; intro a E)
  refine zAn rfl (zCq (by' := 1) E S rfl rfl (by decide) rfl rfl hB4 (by repeat (first | exact pk1 | apply zAc)) (hB3.rd.src (S.stab.at (by repeat (first | exact mm1 | assumption | apply List.Mem.tail))) rfl) rfl rfl rfl rfl rfl rfl (by simp only [maxLen]; omega) (by omega) ?_); clear E S a; intro a w v26 C26 E S hB26
  refine zp E (zAd E rfl rfl) ?_; clear E a; intro a E
  refine wpList_nil ?_
  refine zAf hK ?_; clear hK; clear K
  refine wp_seq_k ?_; intro K hK
  replace E := E.keep (e' := [(6, _), (7, _), (8, _), (9, _)]) (zAa rfl (zAa rfl (zAa rfl (zAa rfl (zAm)))))
  have hB5 : BB C26 v26 (zFa s ++ zFq k b) := zJl hB26
  have h5l : (zFa s ++ zFq k b).length = 37 + b.length := by rw [List.length_append]; omega
  refine zAb ?_
  refine zp E (zAe E rfl rfl) ?_; clear E a; intro a E
  refine zAp E rfl rfl (by decide) rfl Tryz.func41 rfl (by kernel_rfl) rfl (dsumof2_ret C26 v26 _ hB5.rd (by omega) _ (by repeat (first | exact mm1 | assumption | apply List.Mem.tail)) (hG0.sub fun Q hQ => List.Mem.tail _ (List.Mem.tail _ (List.Mem.tail _ (List.Mem.tail _ hQ)))) (hG1.sub fun Q hQ => List.Mem.tail _ (List.Mem.tail _ (List.Mem.tail _ (List.Mem.tail _ hQ)))) _ S.hp) ?_
  rintro v29 w ⟨he, hT⟩; clear E a; intro a E
  obtain ⟨own, hown⟩ : ∃ own, own = ownS k b s := ⟨_, rfl⟩; have hokO : own.Ok := (by rw [hown]; exact shaF_ok _); rw [show shaF (zFa s ++ zFq k b) = own from hown.symm] at he; subst he; have S := S.all hT
  refine zp E (zAe E rfl rfl) ?_; clear E a; intro a E
  iterate 2 (refine zp E (zBm E rfl rfl rfl) ?_; clear E a; intro a E)
  refine zAn rfl (zBs E S rfl rfl (by decide) rfl rfl rfl ?_); clear E S a; intro a w b10 E S
  refine zAn rfl (zAz E S rfl rfl rfl rfl (by simp [Value.oneCell']) rfl (by repeat (first | exact pk1 | apply zAc)) (by simp) ?_); clear E S a; intro a w E S; simp only [List.take_succ_cons, List.take_zero, List.drop_succ_cons, List.drop_zero, List.cons_append, List.nil_append, List.append_nil, List.length_cons, List.length_nil, Nat.zero_add, Nat.add_zero] at S
  refine zp E (zAd E rfl rfl) ?_; clear E a; intro a E
  refine wpList_nil ?_
  refine zAf hK ?_; clear hK; clear K
  refine wp_seq_k ?_; intro K hK
  have hol := zEe own
  refine zCz S (.ofL [(0, 0), (1, 0), (4, 0), (2, 1), (3, 1), (5, 0), (6, 3)]) [[(b10, cel (fsC own) 29)]] (fun h => h.sub (by first | (simp; done) | (simp +contextual; done) | (simp [*]; done))) (by kernel_rfl) (by kernel_rfl) ?_
  clear S; intro w S
  refine zm E rfl (fun w h => zAe E rfl rfl) ?_; clear E a; intro a E
  iterate 2 (refine zm E rfl (fun w h => zBp (vs := [_, _, _, _]) E rfl rfl rfl (h.one (by repeat (first | exact mm1 | assumption | apply List.Mem.tail))) rfl rfl) ?_; clear E a; intro a E)
  refine zCc E rfl rfl rfl (by decide) rfl Tryz.func40 rfl (by kernel_rfl) rfl (usealb_ret own _ _ S.hp hokO) ?_
  rintro v34 w ⟨C7, hB7, hT⟩; clear E a; intro a E
  have S := S.all hT
  refine ⟨S.stab.sub (by first | (simp; done) | (simp +contextual; done) | (simp [*]; done)), ?_⟩
  refine zCp rfl rfl (zCq (by' := 1) E S rfl rfl (by decide) rfl rfl hB3 (by repeat (first | exact pk1 | apply zAc)) (hB7.rd.src (S.stab.at (by repeat (first | exact mm1 | assumption | apply List.Mem.tail))) rfl) rfl rfl rfl rfl rfl rfl (by simp only [maxLen]; omega) (by omega) ?_); clear E S a; intro a w v35 C35 E S hB35; refine ⟨S.stab.sub (by first | (simp; done) | (simp +contextual; done) | (simp [*]; done)), ?_⟩
  refine zm E rfl (fun w h => zAd E rfl rfl) ?_; clear E a; intro a E
  refine zCk rfl rfl (zAz E S rfl rfl rfl rfl (by simp [Value.oneCell']) rfl (by repeat (first | exact pk1 | apply zAc)) (by simp) ?_); clear E S a; intro a w E S; simp only [List.take_succ_cons, List.take_zero, List.drop_succ_cons, List.drop_zero, List.cons_append, List.nil_append, List.append_nil, List.length_cons, List.length_nil, Nat.zero_add, Nat.add_zero] at S
  refine zBw ?_
  refine zAf hK ?_; clear hK; clear K
  refine wp_ret ?_
  refine ret_tc E rfl rfl rfl (S.get (by repeat (first | exact pk1 | apply zAc))) rfl ?_
  have hB8 : BB C35 v35 (zFq k b ++ zFa own) := zJl hB35
  refine ⟨_, rfl, v35, C35, by rw [← hown], by rw [zDc, ← hown]; exact hB8, ?_⟩
  exact (St.drops [_, _, _, _, _] (S.front1 (A := C35) (by repeat (first | exact pk1 | apply zAc)))).tr
end Go.Proofs.YtbogecljkaimdaaGreatDoor
namespace Go.Proofs.YtbogecljkaimdaaGreatDoor
open Go.Sl
set_option maxRecDepth 10000
theorem bb_nil : BB [] nilv [] := Buf.nil _ _
section
variable {X : zAy} {r : Rec} {pv kv dv : Value} (hR : RecR X r pv kv dv) (hck : ckB r = true) {As : List zAy} (hX : X ∈ As) (w0 : World) (H : Hp w0 As)
include hR hck hX H
set_option maxHeartbeats 1000000 in
theorem ubody_ret : Ret Tryz.prog 37 #[.agg (r.cells pv kv dv).toArray] w0 fun u w' => ∃ C, BB C u (zDz r.kind r) ∧ Trs w0 w' As (C :: As) := by
  have S := St.begin H
  obtain ⟨hk, hm, -⟩ := ckB_all hck
  have hbl := zKy hk hm
  obtain ⟨ad1, c1, e1⟩ := hR.pr.slice
  obtain ⟨ad2, c2, e2⟩ := hR.kr.slice
  obtain ⟨ad3, c3, e3⟩ := hR.dr.slice
  subst e1 e2 e3
  have hpr := hR.pr
  have hkr := hR.kr
  have hdr := hR.dr
  refine zCx 147 Tryz.func37 rfl rfl (by decide) ?_; intro a E
  refine wp_seq_k ?_; intro K hK
  refine zAb ?_
  refine zAn rfl (zCt E S rfl rfl (by decide) rfl rfl ?_); clear E S a; intro a w b1 E S
  refine zp E (zAd E rfl rfl) ?_; clear E a; intro a E
  refine wpList_nil ?_
  refine zAf hK ?_; clear hK; clear K
  refine wp_seq_k ?_; intro K hK
  refine zAb ?_
  refine zp E (zAd E rfl rfl) ?_; clear E a; intro a E
  refine wpList_nil ?_
  refine zAf hK ?_; clear hK; clear K
  iterate 2 (refine wp_seq_k ?_; intro K hK)
  have S := S.addNil
  refine zAb ?_
  refine zp E (by first | exact zAg (q := 0) E rfl rfl rfl | exact zAh (q := 0) E rfl rfl rfl) ?_; clear E a; intro a E
  refine zp E (by first | exact zAo E rfl rfl rfl (S.get (by repeat (first | exact pk1 | apply zAc))) rfl | exact zAj E rfl rfl rfl (by assumption)) ?_; clear E a; intro a E
  refine wpList_nil ?_
  refine zAf hK ?_; clear hK; clear K
  refine wp_block ?_
  refine wp_seq_k ?_; intro K hK
  refine zAb ?_
  refine zp E (by first | exact zCe E rfl rfl rfl | exact zAt E rfl rfl rfl rfl | exact zBd E rfl rfl rfl rfl | exact zAw E rfl rfl rfl) ?_; clear E a; intro a E
  refine zp E (zAd E rfl rfl) ?_; clear E a; intro a E
  refine wpList_nil ?_
  refine zAf hK ?_; clear hK; clear K
  refine zBf E rfl (fun hb => ?_) (fun hb => ?_)
  · replace hb := Nrm.nrm hb
    have hk1 : r.kind = 1 := hb; have hm : may1 r = true := (by rw [hk1] at hm; exact hm); have hn := zJu hm
    refine wp_seq_k ?_; intro K hK
    refine zAb ?_
    refine zp E (zAe E rfl rfl) ?_; clear E a; intro a E
    refine zp E (by first | exact zAg (q := 1) E rfl rfl rfl | exact zAh (q := 1) E rfl rfl rfl) ?_; clear E a; intro a E
    refine zp E (by first | exact zAo E rfl rfl rfl (S.get (by repeat (first | exact pk1 | apply zAc))) rfl | exact zAj E rfl rfl rfl (by assumption)) ?_; clear E a; intro a E
    refine zAp E rfl rfl (by decide) rfl Tryz.func81 rfl (by kernel_rfl) rfl (zGx bb_nil r.name (by simp only [List.length_nil]; omega) _ _ S.hp) ?_
    rintro v14 w ⟨C1, hB1, hT⟩; clear E a; intro a E
    have S := S.all hT
    refine zp E (zAd E rfl rfl) ?_; clear E a; intro a E
    refine wpList_nil ?_
    refine zAf hK ?_; clear hK; clear K
    refine wp_seq_k ?_; intro K hK
    have l1 : ([] ++ txt r.name).length = 2 + r.name.length := by rw [List.nil_append, zDa]
    refine zAb ?_
    refine zp E (zAe E rfl rfl) ?_; clear E a; intro a E
    refine zp E (by first | exact zAg (q := 10) E rfl rfl rfl | exact zAh (q := 10) E rfl rfl rfl) ?_; clear E a; intro a E
    refine zp E (by first | exact zAo E rfl rfl rfl (S.get (by repeat (first | exact pk1 | apply zAc))) rfl | exact zAj E rfl rfl rfl (by assumption)) ?_; clear E a; intro a E
    refine zAp E rfl rfl (by decide) rfl Tryz.func39 rfl (by kernel_rfl) rfl (zCy hB1 (by omega) r.many (by omega) (by omega) 2 (by omega) _ _ S.hp) ?_
    rintro v18 w ⟨C2, hB2, hT⟩; clear E a; intro a E
    have S := S.all hT
    refine zp E (zAd E rfl rfl) ?_; clear E a; intro a E
    refine wpList_nil ?_
    refine zAf hK ?_; clear hK; clear K
    refine wp_ret ?_
    refine zCm ?_
    refine zAv ?_; clear hK; clear K
    refine ret1 E rfl rfl ?_
    exact ⟨_, rfl, C2, by rw [hk1]; exact hB2, (St.drops [_] S).tr⟩
  · replace hb := Nrm.nrm hb
    refine wp_seq_k ?_; intro K hK
    refine zAb ?_
    refine zp E (by first | exact zCe E rfl rfl rfl | exact zAt E rfl rfl rfl rfl | exact zBd E rfl rfl rfl rfl | exact zAw E rfl rfl rfl) ?_; clear E a; intro a E
    refine zp E (zAd E rfl rfl) ?_; clear E a; intro a E
    refine wpList_nil ?_
    refine zAf hK ?_; clear hK; clear K
    refine zBf E rfl (fun hb => ?_) (fun hb => ?_)
    · replace hb := Nrm.nrm hb
      have hk2 : r.kind = 2 := hb; have hm : begB r = true := (by rw [hk2] at hm; exact hm); obtain ⟨q1, q2, q3, q4, q5, q6, q7⟩ := (zEh r).1 hm; have hn1 := beh_len q1; have hn2 := zHv q6; have hn3 := zJv q7
      refine wp_seq_k ?_; intro K hK
      refine zAb ?_
      refine zp E (zAe E rfl rfl) ?_; clear E a; intro a E
      refine zp E (by first | exact zAg (q := 1) E rfl rfl rfl | exact zAh (q := 1) E rfl rfl rfl) ?_; clear E a; intro a E
      refine zp E (by first | exact zAo E rfl rfl rfl (S.get (by repeat (first | exact pk1 | apply zAc))) rfl | exact zAj E rfl rfl rfl (by assumption)) ?_; clear E a; intro a E
      refine zAp E rfl rfl (by decide) rfl Tryz.func81 rfl (by kernel_rfl) rfl (zGx bb_nil r.name (by simp only [List.length_nil]; omega) _ _ S.hp) ?_
      rintro v24 w ⟨C1, hB1, hT⟩; clear E a; intro a E
      have S := S.all hT
      refine zp E (zAd E rfl rfl) ?_; clear E a; intro a E
      refine wpList_nil ?_
      refine zAf hK ?_; clear hK; clear K
      refine wp_seq_k ?_; intro K hK
      obtain ⟨x1, hx1⟩ : ∃ x, x = [] ++ txt r.name := ⟨_, rfl⟩
      have l1 : x1.length = 2 + r.name.length := by rw [hx1, List.nil_append, zDa]
      rw [← hx1] at hB1
      refine zAb ?_
      refine zp E (zAe E rfl rfl) ?_; clear E a; intro a E
      refine zp E (by first | exact zAg (q := 2) E rfl rfl rfl | exact zAh (q := 2) E rfl rfl rfl) ?_; clear E a; intro a E
      refine zp E (by first | exact zAo E rfl rfl rfl (S.get (by repeat (first | exact pk1 | apply zAc))) rfl | exact zAj E rfl rfl rfl (by assumption)) ?_; clear E a; intro a E
      refine zAp E rfl rfl (by decide) rfl Tryz.func39 rfl (by kernel_rfl) rfl (zCy hB1 (by omega) r.typ (by omega) (by omega) 1 (by omega) _ _ S.hp) ?_
      rintro v28 w ⟨C2, hB2, hT⟩; clear E a; intro a E
      have S := S.all hT
      refine zp E (zAd E rfl rfl) ?_; clear E a; intro a E
      refine wpList_nil ?_
      refine zAf hK ?_; clear hK; clear K
      refine wp_seq_k ?_; intro K hK
      obtain ⟨x2, hx2⟩ : ∃ x, x = x1 ++ zBy r.typ.toNat 1 := ⟨_, rfl⟩
      have l2 : x2.length = x1.length + 1 := by rw [hx2, List.length_append, zBh]
      rw [← hx2] at hB2
      refine zAb ?_
      refine zp E (zAe E rfl rfl) ?_; clear E a; intro a E
      refine zp E (by first | exact zAg (q := 3) E rfl rfl rfl | exact zAh (q := 3) E rfl rfl rfl) ?_; clear E a; intro a E
      refine zp E (by first | exact zAo E rfl rfl rfl (S.get (by repeat (first | exact pk1 | apply zAc))) rfl | exact zAj E rfl rfl rfl (by assumption)) ?_; clear E a; intro a E
      refine zAp E rfl rfl (by decide) rfl Tryz.func39 rfl (by kernel_rfl) rfl (zCy hB2 (by omega) r.frm (by omega) (by omega) 6 (by omega) _ _ S.hp) ?_
      rintro v32 w ⟨C3, hB3, hT⟩; clear E a; intro a E
      have S := S.all hT
      refine zp E (zAd E rfl rfl) ?_; clear E a; intro a E
      refine wpList_nil ?_
      refine zAf hK ?_; clear hK; clear K
      refine wp_seq_k ?_; intro K hK
      replace E := E.keep (e' := [(1, _), (2, _), (3, _)]) (zAa rfl (zAa rfl (zAa rfl (zAm))))
      obtain ⟨x3, hx3⟩ : ∃ x, x = x2 ++ zBy r.frm.toNat 6 := ⟨_, rfl⟩
      have l3 : x3.length = x2.length + 6 := by rw [hx3, List.length_append, zBh]
      rw [← hx3] at hB3
      refine zAb ?_
      refine zp E (zAe E rfl rfl) ?_; clear E a; intro a E
      refine zp E (by first | exact zAg (q := 4) E rfl rfl rfl | exact zAh (q := 4) E rfl rfl rfl) ?_; clear E a; intro a E
      refine zp E (by first | exact zAo E rfl rfl rfl (S.get (by repeat (first | exact pk1 | apply zAc))) rfl | exact zAj E rfl rfl rfl (by assumption)) ?_; clear E a; intro a E
      refine zAp E rfl rfl (by decide) rfl Tryz.func39 rfl (by kernel_rfl) rfl (zCy hB3 (by omega) r.guid (by omega) (by omega) 6 (by omega) _ _ S.hp) ?_
      rintro v36 w ⟨C4, hB4, hT⟩; clear E a; intro a E
      have S := S.all hT
      refine zp E (zAd E rfl rfl) ?_; clear E a; intro a E
      refine wpList_nil ?_
      refine zAf hK ?_; clear hK; clear K
      refine wp_seq_k ?_; intro K hK
      obtain ⟨x4, hx4⟩ : ∃ x, x = x3 ++ zBy r.guid.toNat 6 := ⟨_, rfl⟩
      have l4 : x4.length = x3.length + 6 := by rw [hx4, List.length_append, zBh]
      rw [← hx4] at hB4
      refine zAb ?_
      refine zp E (zAe E rfl rfl) ?_; clear E a; intro a E
      refine zp E (by first | exact zAg (q := 5) E rfl rfl rfl | exact zAh (q := 5) E rfl rfl rfl) ?_; clear E a; intro a E
      refine zp E (by first | exact zAo E rfl rfl rfl (S.get (by repeat (first | exact pk1 | apply zAc))) rfl | exact zAj E rfl rfl rfl (by assumption)) ?_; clear E a; intro a E
      refine zAp E rfl rfl (by decide) rfl Tryz.func39 rfl (by kernel_rfl) rfl (zCy hB4 (by omega) r.origin (by omega) (by omega) 1 (by omega) _ _ S.hp) ?_
      rintro v40 w ⟨C5, hB5, hT⟩; clear E a; intro a E
      have S := S.all hT
      refine zp E (zAd E rfl rfl) ?_; clear E a; intro a E
      refine wpList_nil ?_
      refine zAf hK ?_; clear hK; clear K
      refine wp_seq_k ?_; intro K hK
      obtain ⟨x5, hx5⟩ : ∃ x, x = x4 ++ zBy r.origin.toNat 1 := ⟨_, rfl⟩
      have l5 : x5.length = x4.length + 1 := by rw [hx5, List.length_append, zBh]
      rw [← hx5] at hB5
      refine zAb ?_
      refine zp E (zAe E rfl rfl) ?_; clear E a; intro a E
      refine zp E (by first | exact zAg (q := 6) E rfl rfl rfl | exact zAh (q := 6) E rfl rfl rfl) ?_; clear E a; intro a E
      refine zp E (by first | exact zAo E rfl rfl rfl (S.get (by repeat (first | exact pk1 | apply zAc))) rfl | exact zAj E rfl rfl rfl (by assumption)) ?_; clear E a; intro a E
      refine zAp E rfl rfl (by decide) rfl Tryz.func81 rfl (by kernel_rfl) rfl (zGx hB5 r.snap (by omega) _ _ S.hp) ?_
      rintro v44 w ⟨C6, hB6, hT⟩; clear E a; intro a E
      have S := S.all hT
      refine zp E (zAd E rfl rfl) ?_; clear E a; intro a E
      refine wpList_nil ?_
      refine zAf hK ?_; clear hK; clear K
      refine wp_seq_k ?_; intro K hK
      obtain ⟨x6, hx6⟩ : ∃ x, x = x5 ++ txt r.snap := ⟨_, rfl⟩
      have l6 : x6.length = x5.length + (2 + r.snap.length) := by rw [hx6, List.length_append, zDa]
      rw [← hx6] at hB6
      refine zAb ?_
      refine zp E (zAe E rfl rfl) ?_; clear E a; intro a E
      refine zp E (by first | exact zAg (q := 7) E rfl rfl rfl | exact zAh (q := 7) E rfl rfl rfl) ?_; clear E a; intro a E
      refine zp E (by first | exact zAo E rfl rfl rfl (S.get (by repeat (first | exact pk1 | apply zAc))) rfl | exact zAj E rfl rfl rfl (by assumption)) ?_; clear E a; intro a E
      refine zp E (by first | exact zBx E rfl rfl rfl | exact zAx E rfl rfl rfl | exact zAq E rfl rfl rfl) ?_; clear E a; intro a E
      refine zAp E rfl rfl (by decide) rfl Tryz.func39 rfl (by kernel_rfl) rfl (zCy hB6 (by omega) r.props.length (by omega) (by omega) 1 (by omega) _ _ S.hp) ?_
      rintro v49 w ⟨C7, hB7, hT⟩; clear E a; intro a E
      have S := S.all hT
      refine zp E (zAd E rfl rfl) ?_; clear E a; intro a E
      refine wpList_nil ?_
      refine zAf hK ?_; clear hK; clear K
      iterate 2 (refine wp_seq_k ?_; intro K hK)
      replace E := E.keep (e' := [(1, _), (2, _), (3, _)]) (zAa rfl (zAa rfl (zAa rfl (zAm))))
      obtain ⟨x7, hx7⟩ : ∃ x, x = x6 ++ zBy ((r.props.length : Int)).toNat 1 := ⟨_, rfl⟩
      have l7 : x7.length = x6.length + 1 := by rw [hx7, List.length_append, zBh]
      rw [← hx7] at hB7
      refine zAb ?_
      refine zp E (zAd E rfl rfl) ?_; clear E a; intro a E
      refine wpList_nil ?_
      refine zAf hK ?_; clear hK; clear K
      refine wp_block ?_
      refine wp_loop_ghost (fun (m : Nat) (a : Act) (w' : World) => ∃ (i : Nat) (C : zAy) (v : Value), m = r.props.length - i ∧ i ≤ r.props.length ∧ BB C v (x7 ++ zEz (r.props.take i)) ∧ St w0 As w' (C :: [(b1, cel (r.cells (.slice ad1 r.props.length c1) (.slice ad2 r.keep.length c2) (.slice ad3 r.data.length c3)) 26)] :: As) ∧ Fr a 147 [(1, ptr b1), (2, nilv), (3, v), (4, .int .i64 i)]) (r.props.length) ?_ ?_
      · exact ⟨0, C7, _, by omega, by omega, by simpa [zEz] using hB7, S, E.keep (zAa rfl (zAa rfl (zAa rfl (zAa rfl zAm))))⟩
      clear E; clear a; (try clear S); rintro m a w ⟨i, C, v, rfl, hi, hB, S, E⟩
      iterate 2 (refine wp_seq_k ?_; intro K hK)
      refine zAb ?_
      refine zp E (zAe E rfl rfl) ?_; clear E a; intro a E
      refine zp E (by first | exact zAg (q := 7) E rfl rfl rfl | exact zAh (q := 7) E rfl rfl rfl) ?_; clear E a; intro a E
      refine zp E (by first | exact zAo E rfl rfl rfl (S.get (by repeat (first | exact pk1 | apply zAc))) rfl | exact zAj E rfl rfl rfl (by assumption)) ?_; clear E a; intro a E
      refine zp E (by first | exact zBx E rfl rfl rfl | exact zAx E rfl rfl rfl | exact zAq E rfl rfl rfl) ?_; clear E a; intro a E
      refine zp E (zCn E rfl rfl rfl) ?_; clear E a; intro a E
      refine wpList_nil ?_
      refine zAf hK ?_; clear hK; clear K
      refine zBf E rfl (fun hb => ?_) (fun hb => ?_)
      · replace hb := Nrm.nrm hb
        refine wp_skip ?_
        refine zAf hK ?_; clear hK; clear K
        refine wp_seq_k ?_; intro K hK
        refine wp_block ?_
        refine wp_seq_k ?_; intro K hK
        have hil : i < r.props.length := by omega
        obtain ⟨b, off, rfl⟩ := hpr.addr (by omega)
        have hsi := hn3.2 _ (List.getElem_mem hil)
        have hle := zKq (l := r.props.take i) (fun p hp => hn3.2 p (List.mem_of_mem_take hp))
        have hst := zKp hil
        rw [List.length_take, Nat.min_eq_left hi] at hle
        have hcl := hpr.elem (lay := Prp.lay) Prp.lay_len (S.stab.at (List.Mem.tail _ (List.Mem.tail _ hX))) hil
        obtain ⟨p, hpe⟩ : ∃ p, p = r.props[i] := ⟨_, rfl⟩
        rw [← hpe] at hsi hcl hst
        obtain ⟨pn, pvl⟩ := p
        simp only at hsi hst
        have hle2 : (x7 ++ zEz (r.props.take i)).length ≤ 4000 := by rw [List.length_append]; omega
        obtain ⟨y, hy⟩ : ∃ y, y = x7 ++ zEz (r.props.take i) := ⟨_, rfl⟩
        rw [← hy] at hB hle2
        refine zAb ?_
        refine zp E (zAe E rfl rfl) ?_; clear E a; intro a E
        refine zp E (by first | exact zAg (q := 7) E rfl rfl rfl | exact zAh (q := 7) E rfl rfl rfl) ?_; clear E a; intro a E
        refine zp E (by first | exact zAo E rfl rfl rfl (S.get (by repeat (first | exact pk1 | apply zAc))) rfl | exact zAj E rfl rfl rfl (by assumption)) ?_; clear E a; intro a E
        refine zp E (zAe E rfl rfl) ?_; clear E a; intro a E
        refine zp E (by first | exact zBl E rfl rfl rfl rfl rfl rfl (by omega) | exact zBv E rfl rfl rfl rfl rfl rfl (by omega) | exact zBj E rfl rfl rfl rfl rfl rfl (by omega)) ?_; clear E a; intro a E
        refine zp E (by first | exact zAg (q := 0) E rfl rfl rfl | exact zAh (q := 0) E rfl rfl rfl) ?_; clear E a; intro a E
        refine zp E (zAj E rfl rfl rfl (hcl 0 _ rfl)) ?_; clear E a; intro a E
        refine zAp E rfl rfl (by decide) rfl Tryz.func81 rfl (by kernel_rfl) rfl (zGx hB pn (by omega) _ _ S.hp) ?_
        rintro v64 w ⟨C8, hB8, hT⟩; clear E a; intro a E
        have S := S.all hT; have hle3 : (y ++ txt pn).length ≤ 5000 := (by rw [List.length_append, zDa]; omega); have hcl := hpr.elem (lay := Prp.lay) Prp.lay_len (S.stab.at (List.Mem.tail _ (List.Mem.tail _ hX))) hil; rw [← hpe] at hcl
        refine zp E (zAd E rfl rfl) ?_; clear E a; intro a E
        refine wpList_nil ?_
        refine zAf hK ?_; clear hK; clear K
        refine zAb ?_
        refine zp E (zAe E rfl rfl) ?_; clear E a; intro a E
        refine zp E (by first | exact zAg (q := 7) E rfl rfl rfl | exact zAh (q := 7) E rfl rfl rfl) ?_; clear E a; intro a E
        refine zp E (by first | exact zAo E rfl rfl rfl (S.get (by repeat (first | exact pk1 | apply zAc))) rfl | exact zAj E rfl rfl rfl (by assumption)) ?_; clear E a; intro a E
        refine zp E (zAe E rfl rfl) ?_; clear E a; intro a E
        refine zp E (by first | exact zBl E rfl rfl rfl rfl rfl rfl (by omega) | exact zBv E rfl rfl rfl rfl rfl rfl (by omega) | exact zBj E rfl rfl rfl rfl rfl rfl (by omega)) ?_; clear E a; intro a E
        refine zp E (by first | exact zAg (q := 1) E rfl rfl rfl | exact zAh (q := 1) E rfl rfl rfl) ?_; clear E a; intro a E
        refine zp E (zAj E rfl rfl rfl (hcl 1 _ rfl)) ?_; clear E a; intro a E
        refine zAp E rfl rfl (by decide) rfl Tryz.func81 rfl (by kernel_rfl) rfl (zGx hB8 pvl (by omega) _ _ S.hp) ?_
        rintro v72 w ⟨C9, hB9, hT⟩; clear E a; intro a E
        have S := S.all hT
        refine zp E (zAd E rfl rfl) ?_; clear E a; intro a E
        refine wpList_nil ?_
        refine zBi ?_
        refine zAf hK ?_; clear hK; clear K
        refine zAb ?_
        refine zp E (zAe E rfl rfl) ?_; clear E a; intro a E
        refine zp E (zBu E rfl rfl rfl (by first | exact zCl (y := 1) (by omega) | exact w_in (by omega) | exact zBt (by omega) | exact rfl)) ?_; clear E a; intro a E
        refine zp E (zAd E rfl rfl) ?_; clear E a; intro a E
        refine wpList_nil ?_
        refine zBq ?_
        exact ⟨_, by omega, i + 1, C9, _, rfl, by omega, by rw [hst, ← List.append_assoc, ← List.append_assoc, ← hy]; exact hB9, S, E.keep (zAa rfl (zAa rfl (zAa rfl (zAa rfl zAm))))⟩
      · replace hb := Nrm.nrm hb
        refine wp_exit ?_
        refine zBc ?_; clear hK; clear K
        refine zBc ?_
        refine zCj ?_
        refine zAf hK ?_; clear hK; clear K
        refine wp_seq_k ?_; intro K hK
        refine zAb ?_
        refine zp E (zAe E rfl rfl) ?_; clear E a; intro a E
        refine zp E (zAd E rfl rfl) ?_; clear E a; intro a E
        refine wpList_nil ?_
        refine zAf hK ?_; clear hK; clear K
        refine wp_ret ?_
        refine zCm ?_
        refine zAv ?_; clear hK; clear K
        refine ret1 E rfl rfl ?_
        obtain rfl : i = r.props.length := by omega
        rw [List.take_length] at hB
        refine ⟨_, rfl, C, ?_, (St.drops [_] S).tr⟩
        have e : zDz r.kind r = x7 ++ zEz r.props := by
          rw [hk2, hx7, hx6, hx5, hx4, hx3, hx2, hx1]
          show body2 r = _
          simp only [body2, List.nil_append, List.append_assoc, Int.toNat_natCast]
        rw [e]; exact hB
    · replace hb := Nrm.nrm hb
      refine wp_seq_k ?_; intro K hK
      refine zAb ?_
      refine zp E (by first | exact zCe E rfl rfl rfl | exact zAt E rfl rfl rfl rfl | exact zBd E rfl rfl rfl rfl | exact zAw E rfl rfl rfl) ?_; clear E a; intro a E
      refine zp E (zAd E rfl rfl) ?_; clear E a; intro a E
      refine wpList_nil ?_
      refine zAf hK ?_; clear hK; clear K
      refine zBf E rfl (fun hb => ?_) (fun hb => ?_)
      · replace hb := Nrm.nrm hb
        have hk3 : r.kind = 3 := hb; have hm : may3 r = true := (by rw [hk3] at hm; exact hm); have hn := zHo (l := r.keep) hm
        refine wp_seq_k ?_; intro K hK
        refine zAb ?_
        refine zp E (zAe E rfl rfl) ?_; clear E a; intro a E
        refine zp E (by first | exact zAg (q := 11) E rfl rfl rfl | exact zAh (q := 11) E rfl rfl rfl) ?_; clear E a; intro a E
        refine zp E (by first | exact zAo E rfl rfl rfl (S.get (by repeat (first | exact pk1 | apply zAc))) rfl | exact zAj E rfl rfl rfl (by assumption)) ?_; clear E a; intro a E
        refine zp E (by first | exact zBx E rfl rfl rfl | exact zAx E rfl rfl rfl | exact zAq E rfl rfl rfl) ?_; clear E a; intro a E
        refine zAp E rfl rfl (by decide) rfl Tryz.func39 rfl (by kernel_rfl) rfl (zCy bb_nil (by simp) r.keep.length (by omega) (by omega) 2 (by omega) _ _ S.hp) ?_
        rintro v80 w ⟨C1, hB1, hT⟩; clear E a; intro a E
        have S := S.all hT
        refine zp E (zAd E rfl rfl) ?_; clear E a; intro a E
        refine wpList_nil ?_
        refine zAf hK ?_; clear hK; clear K
        iterate 2 (refine wp_seq_k ?_; intro K hK)
        refine zAb ?_
        refine zp E (zAd E rfl rfl) ?_; clear E a; intro a E
        refine wpList_nil ?_
        refine zAf hK ?_; clear hK; clear K
        refine wp_block ?_
        refine wp_loop_ghost (fun (m : Nat) (a : Act) (w' : World) => ∃ (i : Nat) (C : zAy) (v : Value), m = r.keep.length - i ∧ i ≤ r.keep.length ∧ BB C v (zBy r.keep.length 2 ++ zFw (r.keep.take i) 4 0) ∧ St w0 As w' (C :: [(b1, cel (r.cells (.slice ad1 r.props.length c1) (.slice ad2 r.keep.length c2) (.slice ad3 r.data.length c3)) 26)] :: As) ∧ Fr a 147 [(1, ptr b1), (2, nilv), (3, v), (5, .int .i64 i)]) (r.keep.length) ?_ ?_
        · exact ⟨0, C1, _, by omega, by omega, by simpa [zFw] using hB1, S, E.keep (zAa rfl (zAa rfl (zAa rfl (zAa rfl zAm))))⟩
        clear E; clear a; (try clear S); rintro m a w ⟨i, C, v, rfl, hi, hB, S, E⟩
        iterate 2 (refine wp_seq_k ?_; intro K hK)
        refine zAb ?_
        refine zp E (zAe E rfl rfl) ?_; clear E a; intro a E
        refine zp E (by first | exact zAg (q := 11) E rfl rfl rfl | exact zAh (q := 11) E rfl rfl rfl) ?_; clear E a; intro a E
        refine zp E (by first | exact zAo E rfl rfl rfl (S.get (by repeat (first | exact pk1 | apply zAc))) rfl | exact zAj E rfl rfl rfl (by assumption)) ?_; clear E a; intro a E
        refine zp E (by first | exact zBx E rfl rfl rfl | exact zAx E rfl rfl rfl | exact zAq E rfl rfl rfl) ?_; clear E a; intro a E
        refine zp E (zCn E rfl rfl rfl) ?_; clear E a; intro a E
        refine wpList_nil ?_
        refine zAf hK ?_; clear hK; clear K
        refine zBf E rfl (fun hb => ?_) (fun hb => ?_)
        · replace hb := Nrm.nrm hb
          refine wp_skip ?_
          refine zAf hK ?_; clear hK; clear K
          refine wp_seq_k ?_; intro K hK
          refine wp_block ?_
          have hil : i < r.keep.length := by omega
          obtain ⟨b, off, rfl⟩ := hkr.addr (by omega)
          have hsi := hn.2 _ (List.getElem_mem hil)
          have hst := zJb hil 4 0
          have hle2 : (zBy r.keep.length 2 ++ zFw (r.keep.take i) 4 0).length ≤ 4000 := by rw [List.length_append, zFl, zBh, List.length_take]; omega
          refine zAb ?_
          refine zp E (zAe E rfl rfl) ?_; clear E a; intro a E
          refine zp E (by first | exact zAg (q := 11) E rfl rfl rfl | exact zAh (q := 11) E rfl rfl rfl) ?_; clear E a; intro a E
          refine zp E (by first | exact zAo E rfl rfl rfl (S.get (by repeat (first | exact pk1 | apply zAc))) rfl | exact zAj E rfl rfl rfl (by assumption)) ?_; clear E a; intro a E
          refine zp E (zAe E rfl rfl) ?_; clear E a; intro a E
          refine zp E (by first | exact zBl E rfl rfl rfl rfl rfl rfl (by omega) | exact zBv E rfl rfl rfl rfl rfl rfl (by omega) | exact zBj E rfl rfl rfl rfl rfl rfl (by omega)) ?_; clear E a; intro a E
          refine zp E (zAj E rfl rfl rfl (hkr.cells (S.stab.at (List.Mem.tail _ (List.Mem.tail _ hX))) rfl i _ (zGe hil))) ?_; clear E a; intro a E
          refine zAp E rfl rfl (by decide) rfl Tryz.func39 rfl (by kernel_rfl) rfl (zCy hB (by omega) r.keep[i] (by omega) (by omega) 4 (by omega) _ _ S.hp) ?_
          rintro v94 w ⟨C2, hB2, hT⟩; clear E a; intro a E
          have S := S.all hT
          refine zp E (zAd E rfl rfl) ?_; clear E a; intro a E
          refine wpList_nil ?_
          refine zBi ?_
          refine zAf hK ?_; clear hK; clear K
          refine zAb ?_
          refine zp E (zAe E rfl rfl) ?_; clear E a; intro a E
          refine zp E (zBu E rfl rfl rfl (by first | exact zCl (y := 1) (by omega) | exact w_in (by omega) | exact zBt (by omega) | exact rfl)) ?_; clear E a; intro a E
          refine zp E (zAd E rfl rfl) ?_; clear E a; intro a E
          refine wpList_nil ?_
          refine zBq ?_
          exact ⟨_, by omega, i + 1, C2, _, rfl, by omega, by rw [hst, ← List.append_assoc, Int.add_zero]; exact hB2, S, E.keep (zAa rfl (zAa rfl (zAa rfl (zAa rfl zAm))))⟩
        · replace hb := Nrm.nrm hb
          refine wp_exit ?_
          refine zBc ?_; clear hK; clear K
          refine zBc ?_
          refine zCj ?_
          refine zAf hK ?_; clear hK; clear K
          refine wp_seq_k ?_; intro K hK
          refine zAb ?_
          refine zp E (zAe E rfl rfl) ?_; clear E a; intro a E
          refine zp E (zAd E rfl rfl) ?_; clear E a; intro a E
          refine wpList_nil ?_
          refine zAf hK ?_; clear hK; clear K
          refine wp_ret ?_
          refine zCm ?_
          refine zAv ?_; clear hK; clear K
          refine ret1 E rfl rfl ?_
          obtain rfl : i = r.keep.length := by omega
          rw [List.take_length] at hB
          exact ⟨_, rfl, C, by rw [hk3]; exact hB, (St.drops [_] S).tr⟩
      · replace hb := Nrm.nrm hb
        refine wp_seq_k ?_; intro K hK
        refine zAb ?_
        refine zp E (by first | exact zCe E rfl rfl rfl | exact zAt E rfl rfl rfl rfl | exact zBd E rfl rfl rfl rfl | exact zAw E rfl rfl rfl) ?_; clear E a; intro a E
        refine zp E (zAd E rfl rfl) ?_; clear E a; intro a E
        refine wpList_nil ?_
        refine zAf hK ?_; clear hK; clear K
        refine zBf E rfl (fun hb => ?_) (fun hb => ?_)
        · replace hb := Nrm.nrm hb
          have hk4 : r.kind = 4 := hb; have hm : may4 r = true := (by rw [hk4] at hm; exact hm); simp only [may4, Bool.and_eq_true, decide_eq_true_eq] at hm; have hn := zHo hm.2.2
          refine wp_seq_k ?_; intro K hK
          refine zAb ?_
          refine zp E (zAe E rfl rfl) ?_; clear E a; intro a E
          refine zp E (by first | exact zAg (q := 8) E rfl rfl rfl | exact zAh (q := 8) E rfl rfl rfl) ?_; clear E a; intro a E
          refine zp E (by first | exact zAo E rfl rfl rfl (S.get (by repeat (first | exact pk1 | apply zAc))) rfl | exact zAj E rfl rfl rfl (by assumption)) ?_; clear E a; intro a E
          refine zAp E rfl rfl (by decide) rfl Tryz.func39 rfl (by kernel_rfl) rfl (zCy bb_nil (by simp) r.object (by omega) (by omega) 4 (by omega) _ _ S.hp) ?_
          rintro v101 w ⟨C1, hB1, hT⟩; clear E a; intro a E
          have S := S.all hT
          refine zp E (zAd E rfl rfl) ?_; clear E a; intro a E
          refine wpList_nil ?_
          refine zAf hK ?_; clear hK; clear K
          refine wp_seq_k ?_; intro K hK
          obtain ⟨x1, hx1⟩ : ∃ x, x = [] ++ zBy r.object.toNat 4 := ⟨_, rfl⟩
          have l1 : x1.length = 4 := by rw [hx1, List.nil_append, zBh]
          rw [← hx1] at hB1
          refine zAb ?_
          refine zp E (zAe E rfl rfl) ?_; clear E a; intro a E
          refine zp E (by first | exact zAg (q := 11) E rfl rfl rfl | exact zAh (q := 11) E rfl rfl rfl) ?_; clear E a; intro a E
          refine zp E (by first | exact zAo E rfl rfl rfl (S.get (by repeat (first | exact pk1 | apply zAc))) rfl | exact zAj E rfl rfl rfl (by assumption)) ?_; clear E a; intro a E
          refine zp E (by first | exact zBx E rfl rfl rfl | exact zAx E rfl rfl rfl | exact zAq E rfl rfl rfl) ?_; clear E a; intro a E
          refine zAp E rfl rfl (by decide) rfl Tryz.func39 rfl (by kernel_rfl) rfl (zCy hB1 (by omega) r.keep.length (by omega) (by omega) 2 (by omega) _ _ S.hp) ?_
          rintro v106 w ⟨C2, hB2, hT⟩; clear E a; intro a E
          have S := S.all hT
          refine zp E (zAd E rfl rfl) ?_; clear E a; intro a E
          refine wpList_nil ?_
          refine zAf hK ?_; clear hK; clear K
          iterate 2 (refine wp_seq_k ?_; intro K hK)
          replace E := E.keep (e' := [(1, _), (2, _), (3, _)]) (zAa rfl (zAa rfl (zAa rfl (zAm))))
          obtain ⟨x2, hx2⟩ : ∃ x, x = x1 ++ zBy ((r.keep.length : Int)).toNat 2 := ⟨_, rfl⟩
          have l2 : x2.length = x1.length + 2 := by rw [hx2, List.length_append, zBh]
          rw [← hx2] at hB2
          refine zAb ?_
          refine zp E (zAd E rfl rfl) ?_; clear E a; intro a E
          refine wpList_nil ?_
          refine zAf hK ?_; clear hK; clear K
          refine wp_block ?_
          refine wp_loop_ghost (fun (m : Nat) (a : Act) (w' : World) => ∃ (i : Nat) (C : zAy) (v : Value), m = r.keep.length - i ∧ i ≤ r.keep.length ∧ BB C v (x2 ++ zFw (r.keep.take i) 2 1) ∧ St w0 As w' (C :: [(b1, cel (r.cells (.slice ad1 r.props.length c1) (.slice ad2 r.keep.length c2) (.slice ad3 r.data.length c3)) 26)] :: As) ∧ Fr a 147 [(1, ptr b1), (2, nilv), (3, v), (6, .int .i64 i)]) (r.keep.length) ?_ ?_
          · exact ⟨0, C2, _, by omega, by omega, by simpa [zFw] using hB2, S, E.keep (zAa rfl (zAa rfl (zAa rfl (zAa rfl zAm))))⟩
          clear E; clear a; (try clear S); rintro m a w ⟨i, C, v, rfl, hi, hB, S, E⟩
          iterate 2 (refine wp_seq_k ?_; intro K hK)
          refine zAb ?_
          refine zp E (zAe E rfl rfl) ?_; clear E a; intro a E
          refine zp E (by first | exact zAg (q := 11) E rfl rfl rfl | exact zAh (q := 11) E rfl rfl rfl) ?_; clear E a; intro a E
          refine zp E (by first | exact zAo E rfl rfl rfl (S.get (by repeat (first | exact pk1 | apply zAc))) rfl | exact zAj E rfl rfl rfl (by assumption)) ?_; clear E a; intro a E
          refine zp E (by first | exact zBx E rfl rfl rfl | exact zAx E rfl rfl rfl | exact zAq E rfl rfl rfl) ?_; clear E a; intro a E
          refine zp E (zCn E rfl rfl rfl) ?_; clear E a; intro a E
          refine wpList_nil ?_
          refine zAf hK ?_; clear hK; clear K
          refine zBf E rfl (fun hb => ?_) (fun hb => ?_)
          · replace hb := Nrm.nrm hb
            refine wp_skip ?_
            refine zAf hK ?_; clear hK; clear K
            refine wp_seq_k ?_; intro K hK
            refine wp_block ?_
            have hil : i < r.keep.length := by omega
            obtain ⟨b, off, rfl⟩ := hkr.addr (by omega)
            have hsi := hn.2 _ (List.getElem_mem hil)
            have hst := zJb hil 2 1
            have hle2 : (x2 ++ zFw (r.keep.take i) 2 1).length ≤ 4000 := by rw [List.length_append, zFl, List.length_take]; omega
            refine zAb ?_
            refine zp E (zAe E rfl rfl) ?_; clear E a; intro a E
            refine zp E (by first | exact zAg (q := 11) E rfl rfl rfl | exact zAh (q := 11) E rfl rfl rfl) ?_; clear E a; intro a E
            refine zp E (by first | exact zAo E rfl rfl rfl (S.get (by repeat (first | exact pk1 | apply zAc))) rfl | exact zAj E rfl rfl rfl (by assumption)) ?_; clear E a; intro a E
            refine zp E (zAe E rfl rfl) ?_; clear E a; intro a E
            refine zp E (by first | exact zBl E rfl rfl rfl rfl rfl rfl (by omega) | exact zBv E rfl rfl rfl rfl rfl rfl (by omega) | exact zBj E rfl rfl rfl rfl rfl rfl (by omega)) ?_; clear E a; intro a E
            refine zp E (zAj E rfl rfl rfl (hkr.cells (S.stab.at (List.Mem.tail _ (List.Mem.tail _ hX))) rfl i _ (zGe hil))) ?_; clear E a; intro a E
            refine zp E (zBu E rfl rfl rfl (w_in (by omega))) ?_; clear E a; intro a E
            refine zAp E rfl rfl (by decide) rfl Tryz.func39 rfl (by kernel_rfl) rfl (zCy hB (by omega) (r.keep[i] + 1) (by omega) (by omega) 2 (by omega) _ _ S.hp) ?_
            rintro v121 w ⟨C3, hB3, hT⟩; clear E a; intro a E
            have S := S.all hT
            refine zp E (zAd E rfl rfl) ?_; clear E a; intro a E
            refine wpList_nil ?_
            refine zBi ?_
            refine zAf hK ?_; clear hK; clear K
            refine zAb ?_
            refine zp E (zAe E rfl rfl) ?_; clear E a; intro a E
            refine zp E (zBu E rfl rfl rfl (by first | exact zCl (y := 1) (by omega) | exact w_in (by omega) | exact zBt (by omega) | exact rfl)) ?_; clear E a; intro a E
            refine zp E (zAd E rfl rfl) ?_; clear E a; intro a E
            refine wpList_nil ?_
            refine zBq ?_
            exact ⟨_, by omega, i + 1, C3, _, rfl, by omega, by rw [hst, ← List.append_assoc]; exact hB3, S, E.keep (zAa rfl (zAa rfl (zAa rfl (zAa rfl zAm))))⟩
          · replace hb := Nrm.nrm hb
            refine wp_exit ?_
            refine zBc ?_; clear hK; clear K
            refine zBc ?_
            refine zCj ?_
            refine zAf hK ?_; clear hK; clear K
            refine wp_seq_k ?_; intro K hK
            refine zAb ?_
            refine zp E (zAe E rfl rfl) ?_; clear E a; intro a E
            refine zp E (zAd E rfl rfl) ?_; clear E a; intro a E
            refine wpList_nil ?_
            refine zAf hK ?_; clear hK; clear K
            refine wp_ret ?_
            refine zCm ?_
            refine zAv ?_; clear hK; clear K
            refine ret1 E rfl rfl ?_
            obtain rfl : i = r.keep.length := by omega
            rw [List.take_length] at hB
            refine ⟨_, rfl, C, ?_, (St.drops [_] S).tr⟩
            have e : zDz r.kind r = x2 ++ zFw r.keep 2 1 := by
              rw [hk4, hx2, hx1]
              show body4 r = _
              simp only [body4, List.nil_append, List.append_assoc, Int.toNat_natCast]
            rw [e]; exact hB
        · replace hb := Nrm.nrm hb
          refine wp_seq_k ?_; intro K hK
          refine zAb ?_
          refine zp E (by first | exact zCe E rfl rfl rfl | exact zAt E rfl rfl rfl rfl | exact zBd E rfl rfl rfl rfl | exact zAw E rfl rfl rfl) ?_; clear E a; intro a E
          refine zp E (zAd E rfl rfl) ?_; clear E a; intro a E
          refine wpList_nil ?_
          refine zAf hK ?_; clear hK; clear K
          refine zBf E rfl (fun hb => ?_) (fun hb => ?_)
          · replace hb := Nrm.nrm hb
            have hk5 : r.kind = 5 := hb; have hm : may5 r = true := (by rw [hk5] at hm; exact hm); simp only [may5, Bool.and_eq_true, decide_eq_true_eq] at hm
            refine wp_seq_k ?_; intro K hK
            refine zAb ?_
            refine zp E (zAe E rfl rfl) ?_; clear E a; intro a E
            refine zp E (by first | exact zAg (q := 8) E rfl rfl rfl | exact zAh (q := 8) E rfl rfl rfl) ?_; clear E a; intro a E
            refine zp E (by first | exact zAo E rfl rfl rfl (S.get (by repeat (first | exact pk1 | apply zAc))) rfl | exact zAj E rfl rfl rfl (by assumption)) ?_; clear E a; intro a E
            refine zAp E rfl rfl (by decide) rfl Tryz.func39 rfl (by kernel_rfl) rfl (zCy bb_nil (by simp) r.object (by omega) (by omega) 4 (by omega) _ _ S.hp) ?_
            rintro v128 w ⟨C1, hB1, hT⟩; clear E a; intro a E
            have S := S.all hT
            refine zp E (zAd E rfl rfl) ?_; clear E a; intro a E
            refine wpList_nil ?_
            refine zAf hK ?_; clear hK; clear K
            refine wp_seq_k ?_; intro K hK
            obtain ⟨x1, hx1⟩ : ∃ x, x = [] ++ zBy r.object.toNat 4 := ⟨_, rfl⟩
            have l1 : x1.length = 4 := by rw [hx1, List.nil_append, zBh]
            rw [← hx1] at hB1
            refine zAb ?_
            refine zp E (zAe E rfl rfl) ?_; clear E a; intro a E
            refine zp E (by first | exact zAg (q := 9) E rfl rfl rfl | exact zAh (q := 9) E rfl rfl rfl) ?_; clear E a; intro a E
            refine zp E (by first | exact zAo E rfl rfl rfl (S.get (by repeat (first | exact pk1 | apply zAc))) rfl | exact zAj E rfl rfl rfl (by assumption)) ?_; clear E a; intro a E
            refine zp E (zBu E rfl rfl rfl (w_in (by omega))) ?_; clear E a; intro a E
            refine zAp E rfl rfl (by decide) rfl Tryz.func39 rfl (by kernel_rfl) rfl (zCy hB1 (by omega) (r.at_ + 1) (by omega) (by omega) 2 (by omega) _ _ S.hp) ?_
            rintro v133 w ⟨C2, hB2, hT⟩; clear E a; intro a E
            have S := S.all hT
            refine zp E (zAd E rfl rfl) ?_; clear E a; intro a E
            refine wpList_nil ?_
            refine zAf hK ?_; clear hK; clear K
            refine wp_seq_k ?_; intro K hK
            replace E := E.keep (e' := [(1, _), (2, _), (3, _)]) (zAa rfl (zAa rfl (zAa rfl (zAm))))
            obtain ⟨x2, hx2⟩ : ∃ x, x = x1 ++ zBy (r.at_ + 1).toNat 2 := ⟨_, rfl⟩
            have l2 : x2.length = x1.length + 2 := by rw [hx2, List.length_append, zBh]
            rw [← hx2] at hB2
            refine zAb ?_
            refine zp E (zAe E rfl rfl) ?_; clear E a; intro a E
            refine zp E (by first | exact zAg (q := 12) E rfl rfl rfl | exact zAh (q := 12) E rfl rfl rfl) ?_; clear E a; intro a E
            refine zp E (by first | exact zAo E rfl rfl rfl (S.get (by repeat (first | exact pk1 | apply zAc))) rfl | exact zAj E rfl rfl rfl (by assumption)) ?_; clear E a; intro a E
            refine zp E (by first | exact zBx E rfl rfl rfl | exact zAx E rfl rfl rfl | exact zAq E rfl rfl rfl) ?_; clear E a; intro a E
            refine zAp E rfl rfl (by decide) rfl Tryz.func39 rfl (by kernel_rfl) rfl (zCy hB2 (by omega) r.data.length (by omega) (by omega) 2 (by omega) _ _ S.hp) ?_
            rintro v138 w ⟨C3, hB3, hT⟩; clear E a; intro a E
            have S := S.all hT
            refine zp E (zAd E rfl rfl) ?_; clear E a; intro a E
            refine wpList_nil ?_
            refine zAf hK ?_; clear hK; clear K
            refine wp_seq_k ?_; intro K hK
            obtain ⟨x3, hx3⟩ : ∃ x, x = x2 ++ zBy ((r.data.length : Int)).toNat 2 := ⟨_, rfl⟩
            have l3 : x3.length = x2.length + 2 := by rw [hx3, List.length_append, zBh]
            rw [← hx3] at hB3
            refine zAb ?_
            refine zp E (zAe E rfl rfl) ?_; clear E a; intro a E
            refine zp E (by first | exact zAg (q := 12) E rfl rfl rfl | exact zAh (q := 12) E rfl rfl rfl) ?_; clear E a; intro a E
            refine zp E (by first | exact zAo E rfl rfl rfl (S.get (by repeat (first | exact pk1 | apply zAc))) rfl | exact zAj E rfl rfl rfl (by assumption)) ?_; clear E a; intro a E
            refine zAn rfl (zCq (by' := 1) E S rfl rfl (by decide) rfl rfl hB3 (by repeat (first | exact pk1 | apply zAc)) (hdr.src (S.stab.at (List.Mem.tail _ (List.Mem.tail _ hX))) rfl) rfl rfl rfl rfl rfl rfl (by simp only [maxLen]; omega) (by omega) ?_); clear E S a; intro a w v142 C142 E S hB142
            refine zp E (zAd E rfl rfl) ?_; clear E a; intro a E
            refine wpList_nil ?_
            refine zAf hK ?_; clear hK; clear K
            refine wp_ret ?_
            refine zCm ?_
            refine zAv ?_; clear hK; clear K
            refine ret1 E rfl rfl ?_
            refine ⟨_, rfl, C142, ?_, (St.drops [_] S).tr⟩
            have e : zDz r.kind r = x3 ++ r.data := by
              rw [hk5, hx3, hx2, hx1]
              show body5 r = _
              simp only [body5, List.nil_append, List.append_assoc, Int.toNat_natCast]
            rw [e]; exact zJl hB142
          · replace hb := Nrm.nrm hb
            have hm : may6 r = true := (by rcases zFc hk with h | h | h | h | h | h | h <;> first | omega | (rw [h] at hm; exact hm)); have hk6 : r.kind = 6 ∨ r.kind = 7 := (by have := hk.1; have := hk.2; omega); simp only [may6, decide_eq_true_eq] at hm
            refine wp_skip ?_
            refine zBi ?_
            refine zAf hK ?_; clear hK; clear K
            refine wp_seq_k ?_; intro K hK
            refine zAb ?_
            refine zp E (zAe E rfl rfl) ?_; clear E a; intro a E
            refine zp E (by first | exact zAg (q := 10) E rfl rfl rfl | exact zAh (q := 10) E rfl rfl rfl) ?_; clear E a; intro a E
            refine zp E (by first | exact zAo E rfl rfl rfl (S.get (by repeat (first | exact pk1 | apply zAc))) rfl | exact zAj E rfl rfl rfl (by assumption)) ?_; clear E a; intro a E
            refine zAp E rfl rfl (by decide) rfl Tryz.func39 rfl (by kernel_rfl) rfl (zCy bb_nil (by simp) r.many (by omega) (by omega) 4 (by omega) _ _ S.hp) ?_
            rintro v146 w ⟨C1, hB1, hT⟩; clear E a; intro a E
            have S := S.all hT
            refine zp E (zAd E rfl rfl) ?_; clear E a; intro a E
            refine wpList_nil ?_
            refine zAf hK ?_; clear hK; clear K
            refine wp_ret ?_
            refine ret1 E rfl rfl ?_
            exact ⟨_, rfl, C1, by rcases hk6 with h | h <;> (rw [h]; exact hB1), (St.drops [_] S).tr⟩
end
end Go.Proofs.YtbogecljkaimdaaGreatDoor
