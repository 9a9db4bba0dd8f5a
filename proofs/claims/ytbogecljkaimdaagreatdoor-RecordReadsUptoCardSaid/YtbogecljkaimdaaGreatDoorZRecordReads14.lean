/-
  Texts put together (14).
-/
import Derived.Test.YtbogecljkaimdaaGreatDoorZRecordReads13
namespace Go.Sl
theorem form_step (n k : Nat) : zCa n (k + 1) = zCa n k ++ [UInt8.ofNat (n / 256 ^ k % 256)] := by
  rw [zCa]
  congr 2
  have : (2 : Nat) ^ (8 * k) = 256 ^ k := by rw [Nat.pow_mul]
  rw [this]
  apply UInt8.toNat_inj.1
  simp
theorem div_step (n k : Nat) : n / 256 ^ k / 256 = n / 256 ^ (k + 1) := by rw [Nat.div_div_eq_div_mul, Nat.pow_succ]
theorem w8m (n : Nat) : IntKind.u8.wrap ((n % 256 : Nat) : Int) = ((UInt8.ofNat (n % 256)).toNat : Int) := w8 _
theorem divle (n k : Nat) : n / 256 ^ k ≤ n := Nat.div_le_self _ _
end Go.Sl
namespace Go.Proofs.YtbogecljkaimdaaGreatDoor
open Go.Sl
set_option maxRecDepth 10000
abbrev BB (C : zAw) (v : Value) (bs : List UInt8) : Prop := Buf C 5 1 v bs.length (byt bs)
theorem zLe {C : zAw} {v : Value} {xs ys : List UInt8} (h : Buf C 5 1 v (xs.length + ys.length) (byt xs ++ byt ys)) : BB C v (xs ++ ys) := by
  show Buf C _ 1 v (xs ++ ys).length _
  rw [List.length_append, zDv]; exact h
theorem unumber_ret {C : zAw} {v : Value} {bs : List UInt8} (hB : BB C v bs) (hl : bs.length ≤ 140737488300000) (z : Int) (hz : 0 ≤ z) (hz2 : z ≤ 9223372036854775807) (size : Nat) (h8 : size ≤ 8) (As : List zAw) (w0 : World) (H : Hp w0 (C :: As)) :
    Ret Tryz.prog 39 #[v, .int .i64 z, .int .i64 size] w0 fun u w' => ∃ C', BB C' u (bs ++ zCa z.toNat size) ∧ Trs w0 w' (C :: As) (C' :: As) := by
  have S := St.begin H
  obtain ⟨n, rfl⟩ : ∃ n : Nat, z = n := ⟨z.toNat, by omega⟩
  refine zFq 22 Tryz.func39 rfl rfl (by decide) ?_; intro a E
  refine wp_seq_k ?_; intro K hK
  refine zAb ?_
  refine zp E (zAd E rfl rfl) ?_; clear E a; intro a E
  refine wpList_nil ?_
  refine zAf hK ?_; clear hK; clear K
  iterate 2 (refine wp_seq_k ?_; intro K hK)
  refine zAb ?_
  refine zp E (zAd E rfl rfl) ?_; clear E a; intro a E
  refine wpList_nil ?_
  refine zAf hK ?_; clear hK; clear K
  refine wp_block ?_
  refine wp_loop_ghost (fun (m : Nat) (a : Act) (w' : World) => ∃ (i : Nat) (C' : zAw) (v' : Value), m = size - i ∧ i ≤ size ∧ BB C' v' (bs ++ zCa n i) ∧ St w0 (C :: As) w' (C' :: As) ∧ Fr a 22 [(0, v'), (1, .int .i64 (n / 256 ^ i : Nat)), (2, .int .i64 size), (6, nilv), (7, .int .i64 i)]) (size) ?_ ?_
  · exact ⟨0, C, v, by omega, by omega, by rw [zCa, List.append_nil]; exact hB, S, by rw [Nat.pow_zero, Nat.div_one]; exact E.keep (zAa rfl (zAa rfl (zAa rfl (zAa rfl (zAa rfl zAm)))))⟩
  clear E; clear a; (try clear S); rintro m a w ⟨i, C', v', rfl, hi, hB', S, E⟩
  iterate 2 (refine wp_seq_k ?_; intro K hK)
  refine zAb ?_
  iterate 2 (refine zp E (zAe E rfl rfl) ?_; clear E a; intro a E)
  refine zp E (zCj E rfl rfl rfl) ?_; clear E a; intro a E
  refine wpList_nil ?_
  refine zAf hK ?_; clear hK; clear K
  refine zBg E rfl (fun hb => ?_) (fun hb => ?_)
  · replace hb := Nrm.nrm hb
    refine wp_skip ?_
    refine zAf hK ?_; clear hK; clear K
    refine wp_seq_k ?_; intro K hK
    refine wp_block ?_
    refine wp_seq_k ?_; intro K hK
    have hd := divle n i
    have hst := form_step n i
    have hdv := div_step n i
    have hbl : (bs ++ zCa n i).length = bs.length + i := by rw [List.length_append, zBn]
    obtain ⟨d, hd2⟩ : ∃ d, d = n / 256 ^ i := ⟨_, rfl⟩
    rw [← hd2] at E hd hst hdv
    obtain ⟨cs, hcs⟩ : ∃ cs, cs = bs ++ zCa n i := ⟨_, rfl⟩
    rw [← hcs] at hB' hbl
    refine zAb ?_
    iterate 2 (refine zp E (zAe E rfl rfl) ?_; clear E a; intro a E)
    refine zp E (rn_rem E rfl rfl rfl (by first | decide | omega) (wr_lit (x := d) (y := 256))) ?_; clear E a; intro a E
    refine zp E (zBb E rfl rfl rfl rfl (w8m d)) ?_; clear E a; intro a E
    refine zAn rfl (zDf (cells := [_]) E S rfl rfl (by decide) rfl rfl rfl rfl rfl (by decide) rfl ?_); clear E S a; intro a w b17 E S
    refine zAn rfl (zCn (by' := 1) E S rfl rfl (by decide) rfl rfl hB' (by repeat (first | exact pk1 | apply zAc)) ((zEr (g := b17) (T := 5) (xs := [.int .u8 (UInt8.ofNat (d % 256)).toNat]) (s := 1) (m := 1) rfl (by simp [Value.oneCell']) (by omega) 1).src (S.stab.at (by repeat (first | exact mm1 | assumption | apply List.Mem.tail))) rfl) rfl rfl rfl rfl rfl rfl (by simp only [maxLen]; omega) (by omega) ?_); clear E S a; intro a w v18 C18 E S hB18
    refine zp E (zAd E rfl rfl) ?_; clear E a; intro a E
    refine wpList_nil ?_
    refine zAf hK ?_; clear hK; clear K
    refine zAb ?_
    refine zp E (zAe E rfl rfl) ?_; clear E a; intro a E
    refine zp E (rn_quo E rfl rfl rfl (by decide) (by first | exact wq_lit (y := 256) (by omega) | exact wq_litu (y := 256) (by omega) | exact rfl)) ?_; clear E a; intro a E
    refine zp E (zAd E rfl rfl) ?_; clear E a; intro a E
    refine wpList_nil ?_
    refine zBf ?_
    refine zAf hK ?_; clear hK; clear K
    refine zAb ?_
    refine zp E (zAe E rfl rfl) ?_; clear E a; intro a E
    refine zp E (zBs E rfl rfl rfl (by first | exact zCh (y := 1) (by omega) | exact w_in (by omega) | exact zBr (by omega) | exact rfl)) ?_; clear E a; intro a E
    refine zp E (zAd E rfl rfl) ?_; clear E a; intro a E
    refine wpList_nil ?_
    refine zBo ?_
    have hB2 : BB C18 v18 (cs ++ [UInt8.ofNat (d % 256)]) := zLe hB18
    exact ⟨_, by omega, i + 1, C18, v18, rfl, by omega, by rw [hst, ← List.append_assoc, ← hcs]; exact hB2, S.perm2.tail, by rw [← hdv]; exact E.keep (zAa rfl (zAa rfl (zAa rfl (zAa rfl (zAa rfl zAm)))))⟩
  · replace hb := Nrm.nrm hb
    refine wp_exit ?_
    refine zBc ?_; clear hK; clear K
    refine zBc ?_
    refine zCk ?_
    refine zAf hK ?_; clear hK; clear K
    refine wp_seq_k ?_; intro K hK
    refine zAb ?_
    refine zp E (zAe E rfl rfl) ?_; clear E a; intro a E
    refine zp E (zAd E rfl rfl) ?_; clear E a; intro a E
    refine wpList_nil ?_
    refine zAf hK ?_; clear hK; clear K
    refine wp_ret ?_
    refine ret1 E rfl rfl ?_
    obtain rfl : i = size := by omega
    exact ⟨_, rfl, C', by rw [Int.toNat_natCast]; exact hB', S.tr⟩
theorem zLf (s : Fs) (As : List zAw) (w0 : World) (H : Hp w0 As) (hok : s.Ok) :
    Ret Tryz.prog 40 #[s.agg] w0 fun u w' => ∃ C, BB C u (zEw s) ∧ Trs w0 w' As (C :: As) := by
  have S := St.begin H
  obtain ⟨ws, hws⟩ : ∃ ws, ws = s.ws := ⟨_, rfl⟩
  have hwl : ws.length = 4 := by rw [hws]; rfl
  have hwc : u64n ws = [.int .u64 s.a, .int .u64 s.b, .int .u64 s.c, .int .u64 s.d] := by rw [hws]; rfl
  have hwb : ∀ n ∈ ws, n < 18446744073709551616 := by
    obtain ⟨h1, h2, h3, h4⟩ := hok
    rw [hws]; simp only [Fs.ws, List.mem_cons, List.not_mem_nil, or_false]
    rintro n (rfl | rfl | rfl | rfl) <;> assumption
  refine zCw 38 Tryz.func40 rfl rfl (by decide) ?_; intro a E
  refine wp_seq_k ?_; intro K hK
  refine zAb ?_
  refine zAn rfl (zCq E S rfl rfl (by decide) rfl rfl ?_); clear E S a; intro a w b1 E S
  refine zp E (zAd E rfl rfl) ?_; clear E a; intro a E
  refine wpList_nil ?_
  refine zAf hK ?_; clear hK; clear K
  refine wp_seq_k ?_; intro K hK
  refine zAb ?_
  refine zp E (zAd E rfl rfl) ?_; clear E a; intro a E
  refine wpList_nil ?_
  refine zAf hK ?_; clear hK; clear K
  refine wp_seq_k ?_; intro K hK
  refine zAb ?_
  refine zp E (by first | exact zAg (q := 0) E rfl rfl rfl | exact zAh (q := 0) E rfl rfl rfl) ?_; clear E a; intro a E
  refine zp E (by first | exact zAo E rfl rfl rfl (S.get (by repeat (first | exact pk1 | apply zAc))) rfl | exact zAk E rfl rfl rfl (by assumption)) ?_; clear E a; intro a E
  refine zp E (by first | exact zAg (q := 1) E rfl rfl rfl | exact zAh (q := 1) E rfl rfl rfl) ?_; clear E a; intro a E
  refine zp E (by first | exact zAo E rfl rfl rfl (S.get (by repeat (first | exact pk1 | apply zAc))) rfl | exact zAk E rfl rfl rfl (by assumption)) ?_; clear E a; intro a E
  refine zp E (by first | exact zAg (q := 2) E rfl rfl rfl | exact zAh (q := 2) E rfl rfl rfl) ?_; clear E a; intro a E
  refine zp E (by first | exact zAo E rfl rfl rfl (S.get (by repeat (first | exact pk1 | apply zAc))) rfl | exact zAk E rfl rfl rfl (by assumption)) ?_; clear E a; intro a E
  refine zp E (by first | exact zAg (q := 3) E rfl rfl rfl | exact zAh (q := 3) E rfl rfl rfl) ?_; clear E a; intro a E
  refine zp E (by first | exact zAo E rfl rfl rfl (S.get (by repeat (first | exact pk1 | apply zAc))) rfl | exact zAk E rfl rfl rfl (by assumption)) ?_; clear E a; intro a E
  refine zAn rfl (zDf (cells := [_, _, _, _]) E S rfl rfl (by decide) rfl rfl rfl rfl rfl (by decide) rfl ?_); clear E S a; intro a w b16 E S
  rw [← hwc] at S
  refine zp E (zAd E rfl rfl) ?_; clear E a; intro a E
  refine wpList_nil ?_
  refine zAf hK ?_; clear hK; clear K
  iterate 2 (refine wp_seq_k ?_; intro K hK)
  refine zAb ?_
  refine zp E (zAd E rfl rfl) ?_; clear E a; intro a E
  refine wpList_nil ?_
  refine zAf hK ?_; clear hK; clear K
  refine wp_block ?_
  refine wp_loop_ghost (fun (m : Nat) (a : Act) (w' : World) => ∃ (i : Nat) (C : zAw) (v : Value), m = 4 - i ∧ i ≤ 4 ∧ BB C v (zGk (ws.take i)) ∧ St w0 As w' (C :: [(b16, cel (u64n ws) 27)] :: As) ∧ Fr a 38 [(2, nilv), (3, v), (4, .slice (some ⟨b16, 0, none⟩) 4 4), (5, .int .i64 i)]) (4) ?_ ?_
  · exact ⟨0, [], _, by omega, by omega, Buf.nil _ _, S.perm2.tail.addNil, E.keep (zAa rfl (zAa rfl (zAa rfl (zAa rfl zAm))))⟩
  clear E; clear a; (try clear S); rintro m a w ⟨i, C, v, rfl, hi, hB, S, E⟩
  iterate 2 (refine wp_seq_k ?_; intro K hK)
  refine zAb ?_
  refine zp E (zAe E rfl rfl) ?_; clear E a; intro a E
  refine zp E (zCj E rfl rfl rfl) ?_; clear E a; intro a E
  refine wpList_nil ?_
  refine zAf hK ?_; clear hK; clear K
  refine zBg E rfl (fun hb => ?_) (fun hb => ?_)
  · replace hb := Nrm.nrm hb
    refine wp_skip ?_
    refine zAf hK ?_; clear hK; clear K
    refine wp_seq_k ?_; intro K hK
    refine wp_block ?_
    refine wp_seq_k ?_; intro K hK
    have hil : i < ws.length := by omega
    have hwi := hwb _ (List.getElem_mem hil)
    refine zAb ?_
    iterate 2 (refine zp E (zAe E rfl rfl) ?_; clear E a; intro a E)
    refine zp E (by first | exact zBm E rfl rfl rfl rfl rfl rfl (by omega) | exact zBu E rfl rfl rfl rfl rfl rfl (by omega) | exact zBj E rfl rfl rfl rfl rfl rfl (by omega)) ?_; clear E a; intro a E
    refine zp E (zAk E rfl rfl rfl (by rw [Nat.zero_add]; exact zCz (S.get (by repeat (first | exact pk1 | apply zAc))) (u64n_at hil))) ?_; clear E a; intro a E
    refine zp E (zAd E rfl rfl) ?_; clear E a; intro a E
    refine wpList_nil ?_
    refine zAf hK ?_; clear hK; clear K
    refine wp_seq_k ?_; intro K hK
    refine zAb ?_
    refine zp E (zAd E rfl rfl) ?_; clear E a; intro a E
    refine wpList_nil ?_
    refine zAf hK ?_; clear hK; clear K
    refine wp_block ?_
    refine wp_loop_ghost (fun (m : Nat) (a : Act) (w' : World) => ∃ (j : Nat) (C : zAw) (v : Value), m = 8 - j ∧ j ≤ 8 ∧ BB C v (zGk (ws.take i) ++ zCa ws[i] j) ∧ St w0 As w' (C :: [(b16, cel (u64n ws) 27)] :: As) ∧ Fr a 38 [(2, nilv), (3, v), (4, .slice (some ⟨b16, 0, none⟩) 4 4), (5, .int .i64 i), (6, .int .u64 (ws[i] / 256 ^ j : Nat)), (7, .int .i64 j)]) (8) ?_ ?_
    · exact ⟨0, C, v, by omega, by omega, by simpa [zCa] using hB, S, by rw [Nat.pow_zero, Nat.div_one]; exact E.keep (zAa rfl (zAa rfl (zAa rfl (zAa rfl (zAa rfl (zAa rfl zAm))))))⟩
    clear E; clear a; (try clear S); rintro m a w ⟨j, C, v, rfl, hj, hB, S, E⟩
    iterate 2 (refine wp_seq_k ?_; intro K hK)
    refine zAb ?_
    refine zp E (zAe E rfl rfl) ?_; clear E a; intro a E
    refine zp E (zCj E rfl rfl rfl) ?_; clear E a; intro a E
    refine wpList_nil ?_
    refine zAf hK ?_; clear hK; clear K
    refine zBg E rfl (fun hb => ?_) (fun hb => ?_)
    · replace hb := Nrm.nrm hb
      refine wp_skip ?_
      refine zAf hK ?_; clear hK; clear K
      refine wp_seq_k ?_; intro K hK
      refine wp_block ?_
      refine wp_seq_k ?_; intro K hK
      have hd := divle ws[i] j
      have hst := form_step ws[i] j
      have hdv := div_step ws[i] j
      have hbl : (zGk (ws.take i) ++ zCa ws[i] j).length = 8 * i + j := by rw [List.length_append, zBn, zIl, List.length_take, Nat.min_eq_left (by omega)]
      obtain ⟨d, hd2⟩ : ∃ d, d = ws[i] / 256 ^ j := ⟨_, rfl⟩
      rw [← hd2] at E hd hst hdv
      obtain ⟨cs, hcs⟩ : ∃ cs, cs = zGk (ws.take i) ++ zCa ws[i] j := ⟨_, rfl⟩
      rw [← hcs] at hB hbl
      refine zAb ?_
      iterate 2 (refine zp E (zAe E rfl rfl) ?_; clear E a; intro a E)
      refine zp E (rn_rem E rfl rfl rfl (by first | decide | omega) (wr_lit (x := d) (y := 256))) ?_; clear E a; intro a E
      refine zp E (zBb E rfl rfl rfl rfl (w8m d)) ?_; clear E a; intro a E
      refine zAn rfl (zDf (cells := [_]) E S rfl rfl (by decide) rfl rfl rfl rfl rfl (by decide) rfl ?_); clear E S a; intro a w b33 E S
      refine zAn rfl (zCn (by' := 1) E S rfl rfl (by decide) rfl rfl hB (by repeat (first | exact pk1 | apply zAc)) ((zEr (g := b33) (T := 5) (xs := [.int .u8 (UInt8.ofNat (d % 256)).toNat]) (s := 1) (m := 1) rfl (by simp [Value.oneCell']) (by omega) 1).src (S.stab.at (by repeat (first | exact mm1 | assumption | apply List.Mem.tail))) rfl) rfl rfl rfl rfl rfl rfl (by simp only [maxLen]; omega) (by omega) ?_); clear E S a; intro a w v34 C34 E S hB34
      refine zp E (zAd E rfl rfl) ?_; clear E a; intro a E
      refine wpList_nil ?_
      refine zAf hK ?_; clear hK; clear K
      refine zAb ?_
      refine zp E (zAe E rfl rfl) ?_; clear E a; intro a E
      refine zp E (rn_quo E rfl rfl rfl (by decide) (by first | exact wq_lit (y := 256) (by omega) | exact wq_litu (y := 256) (by omega) | exact rfl)) ?_; clear E a; intro a E
      refine zp E (zAd E rfl rfl) ?_; clear E a; intro a E
      refine wpList_nil ?_
      refine zBf ?_
      refine zAf hK ?_; clear hK; clear K
      refine zAb ?_
      refine zp E (zAe E rfl rfl) ?_; clear E a; intro a E
      refine zp E (zBs E rfl rfl rfl (by first | exact zCh (y := 1) (by omega) | exact w_in (by omega) | exact zBr (by omega) | exact rfl)) ?_; clear E a; intro a E
      refine zp E (zAd E rfl rfl) ?_; clear E a; intro a E
      refine wpList_nil ?_
      refine zBo ?_
      have hB2 : BB C34 v34 (cs ++ [UInt8.ofNat (d % 256)]) := zLe hB34
      exact ⟨_, by omega, j + 1, C34, v34, rfl, by omega, by rw [hst, ← List.append_assoc, ← hcs]; exact hB2, S.perm2.tail, by rw [← hdv]; exact E.keep (zAa rfl (zAa rfl (zAa rfl (zAa rfl (zAa rfl (zAa rfl zAm))))))⟩
    · replace hb := Nrm.nrm hb
      refine wp_exit ?_
      refine zBc ?_; clear hK; clear K
      refine zBc ?_
      refine zCk ?_
      refine zBf ?_
      refine zAf hK ?_; clear hK; clear K
      refine zAb ?_
      refine zp E (zAe E rfl rfl) ?_; clear E a; intro a E
      refine zp E (zBs E rfl rfl rfl (by first | exact zCh (y := 1) (by omega) | exact w_in (by omega) | exact zBr (by omega) | exact rfl)) ?_; clear E a; intro a E
      refine zp E (zAd E rfl rfl) ?_; clear E a; intro a E
      refine wpList_nil ?_
      refine zBo ?_
      obtain rfl : j = 8 := by omega
      exact ⟨_, by omega, i + 1, C, v, rfl, by omega, by rw [zKh hil]; exact hB, S, E.keep (zAa rfl (zAa rfl (zAa rfl (zAa rfl zAm))))⟩
  · replace hb := Nrm.nrm hb
    refine wp_exit ?_
    refine zBc ?_; clear hK; clear K
    refine zBc ?_
    refine zCk ?_
    refine zAf hK ?_; clear hK; clear K
    refine wp_seq_k ?_; intro K hK
    refine zAb ?_
    refine zp E (zAe E rfl rfl) ?_; clear E a; intro a E
    refine zp E (zAd E rfl rfl) ?_; clear E a; intro a E
    refine wpList_nil ?_
    refine zAf hK ?_; clear hK; clear K
    refine wp_ret ?_
    refine ret1 E rfl rfl ?_
    obtain rfl : i = 4 := by omega
    rw [List.take_of_length_le (by omega), hws] at hB
    exact ⟨_, rfl, C, hB, S.perm2.tail.tr⟩
theorem usealed_ret (k : Nat) (hk : k ≤ 255) {D : zAw} {v : Value} {b : List UInt8} (hD : Rd D 1 v b.length (byt b)) (hbl : b.length ≤ 140737488000000) (s : Fs) (hok : s.Ok) {As : List zAw} (mD : D ∈ As) (hG0 : Tab As 0 sha0.l) (hG1 : Tab As 1 shaK) (w0 : World) (H : Hp w0 As) :
    Ret Tryz.prog 18 #[.int .i64 k, v, s.agg] w0 fun u w' => ∃ v' C, u = .tuple #[v', (ownS k b s).agg] ∧ BB C v' (zDl k b s) ∧ Trs w0 w' As (C :: As) := by
  have S := St.begin H
  obtain ⟨ad, c, rfl⟩ := hD.slice
  have hsl := zEb s
  refine zFq 37 Tryz.func18 rfl rfl (by decide) ?_; intro a E
  refine wp_seq_k ?_; intro K hK
  refine zAb ?_
  refine zAn rfl (zCq E S rfl rfl (by decide) rfl rfl ?_); clear E S a; intro a w b5 E S
  refine zp E (zAd E rfl rfl) ?_; clear E a; intro a E
  refine zAn rfl (zBv E S rfl rfl (by decide) rfl rfl rfl ?_); clear E S a; intro a w b7 E S
  refine wpList_nil ?_
  refine zAf hK ?_; clear hK; clear K
  refine wp_seq_k ?_; intro K hK
  refine zAb ?_
  refine zp E (zAe E rfl rfl) ?_; clear E a; intro a E
  refine zp E (zBb E rfl rfl rfl rfl (w8 k)) ?_; clear E a; intro a E
  refine zAn rfl (zDf (cells := [_]) E S rfl rfl (by decide) rfl rfl rfl rfl rfl (by decide) rfl ?_); clear E S a; intro a w b14 E S
  refine zp E (zAd E rfl rfl) ?_; clear E a; intro a E
  refine wpList_nil ?_
  refine zAf hK ?_; clear hK; clear K
  refine wp_seq_k ?_; intro K hK
  have hB1 : BB [(b14, cel (byt [UInt8.ofNat k]) 5)] (.slice (some ⟨b14, 0, none⟩) 1 1) [UInt8.ofNat k] := zIg b14 [UInt8.ofNat k] 5 (by simp)
  refine zAb ?_
  iterate 2 (refine zp E (zAe E rfl rfl) ?_; clear E a; intro a E)
  refine zp E (by first | exact zBz E rfl rfl rfl | exact zBa E rfl rfl rfl | exact zAr E rfl rfl rfl) ?_; clear E a; intro a E
  refine zAp E rfl rfl (by decide) rfl Tryz.func39 rfl (by kernel_rfl) rfl (unumber_ret hB1 (by simp) b.length (by omega) (by omega) 4 (by omega) _ _ S.hp) ?_
  rintro v18 w ⟨C2, hB2, hT⟩; clear E a; intro a E
  have S := S.all hT
  refine zp E (zAd E rfl rfl) ?_; clear E a; intro a E
  refine wpList_nil ?_
  refine zAf hK ?_; clear hK; clear K
  refine wp_seq_k ?_; intro K hK
  have hh : [UInt8.ofNat k] ++ zCa ((b.length : Int)).toNat 4 = headB k b.length := by simp [headB, zCa]
  rw [hh] at hB2
  have hhl := zHe k b.length
  refine zAb ?_
  iterate 2 (refine zp E (zAe E rfl rfl) ?_; clear E a; intro a E)
  refine zAn rfl (zCn (by' := 1) E S rfl rfl (by decide) rfl rfl hB2 (by repeat (first | exact pk1 | apply zAc)) (hD.src (S.stab.at (List.Mem.tail _ (List.Mem.tail _ (List.Mem.tail _ mD)))) rfl) rfl rfl rfl rfl rfl rfl (by simp only [maxLen]; omega) (by omega) ?_); clear E S a; intro a w v21 C21 E S hB21
  refine zp E (zAd E rfl rfl) ?_; clear E a; intro a E
  refine wpList_nil ?_
  refine zAf hK ?_; clear hK; clear K
  refine wp_seq_k ?_; intro K hK
  have hB3 : BB C21 v21 (zFi k b) := zLe hB21
  have hfl := zEy k b
  clear hB21
  refine zAb ?_
  refine zp E (zBp (vs := [_, _, _, _]) E rfl rfl rfl (S.get (by repeat (first | exact pk1 | apply zAc))) rfl rfl) ?_; clear E a; intro a E
  refine zAp E rfl rfl (by decide) rfl Tryz.func40 rfl (by kernel_rfl) rfl (zLf s _ _ S.hp hok) ?_
  rintro v23 w ⟨C4, hB4, hT⟩; clear E a; intro a E
  have S := S.all hT
  refine zp E (zAd E rfl rfl) ?_; clear E a; intro a E
  refine wpList_nil ?_
  refine zAf hK ?_; clear hK; clear K
  refine wp_seq_k ?_; intro K hK
  refine zAb ?_
  iterate 2 (refine zp E (zAe E rfl rfl) ?_; clear E a; intro a E)
  refine zAn rfl (zCn (by' := 1) E S rfl rfl (by decide) rfl rfl hB4 (by repeat (first | exact pk1 | apply zAc)) (hB3.rd.src (S.stab.at (by repeat (first | exact mm1 | assumption | apply List.Mem.tail))) rfl) rfl rfl rfl rfl rfl rfl (by simp only [maxLen]; omega) (by omega) ?_); clear E S a; intro a w v26 C26 E S hB26
  refine zp E (zAd E rfl rfl) ?_; clear E a; intro a E
  refine wpList_nil ?_
  refine zAf hK ?_; clear hK; clear K
  refine wp_seq_k ?_; intro K hK
  replace E := E.keep (e' := [(6, _), (7, _), (8, _), (9, _)]) (zAa rfl (zAa rfl (zAa rfl (zAa rfl (zAm)))))
  have hB5 : BB C26 v26 (zEw s ++ zFi k b) := zLe hB26
  have h5l : (zEw s ++ zFi k b).length = 37 + b.length := by rw [List.length_append]; omega
  refine zAb ?_
  refine zp E (zAe E rfl rfl) ?_; clear E a; intro a E
  refine zAp E rfl rfl (by decide) rfl Tryz.func41 rfl (by kernel_rfl) rfl (dsumof2_ret C26 v26 _ hB5.rd (by omega) _ (by repeat (first | exact mm1 | assumption | apply List.Mem.tail)) (hG0.sub fun Q hQ => List.Mem.tail _ (List.Mem.tail _ (List.Mem.tail _ (List.Mem.tail _ hQ)))) (hG1.sub fun Q hQ => List.Mem.tail _ (List.Mem.tail _ (List.Mem.tail _ (List.Mem.tail _ hQ)))) _ S.hp) ?_
  rintro v29 w ⟨he, hT⟩; clear E a; intro a E
  obtain ⟨own, hown⟩ : ∃ own, own = ownS k b s := ⟨_, rfl⟩; have hokO : own.Ok := (by rw [hown]; exact shaF_ok _); rw [show shaF (zEw s ++ zFi k b) = own from hown.symm] at he; subst he; have S := S.all hT
  refine zp E (zAe E rfl rfl) ?_; clear E a; intro a E
  iterate 2 (refine zp E (zBt E rfl rfl rfl) ?_; clear E a; intro a E)
  refine zAn rfl (zBv E S rfl rfl (by decide) rfl rfl rfl ?_); clear E S a; intro a w b10 E S
  refine zAn rfl (zBe E S rfl rfl rfl rfl (by simp [Value.oneCell']) rfl (by repeat (first | exact pk1 | apply zAc)) (by simp) ?_); clear E S a; intro a w E S; simp only [List.take_succ_cons, List.take_zero, List.drop_succ_cons, List.drop_zero, List.cons_append, List.nil_append, List.append_nil, List.length_cons, List.length_nil, Nat.zero_add, Nat.add_zero] at S
  refine zp E (zAd E rfl rfl) ?_; clear E a; intro a E
  refine wpList_nil ?_
  refine zAf hK ?_; clear hK; clear K
  refine wp_seq_k ?_; intro K hK
  have hol := zEb own
  refine zDg S (.ofL [(0, 0), (1, 0), (4, 0), (2, 1), (3, 1), (5, 0), (6, 3)]) [[(b10, cel (fsC own) 29)]] (fun h => h.sub (by first | (simp; done) | (simp +contextual; done) | (simp [*]; done))) (by kernel_rfl) (by kernel_rfl) ?_
  clear S; intro w S
  refine zm E rfl (fun w h => zAe E rfl rfl) ?_; clear E a; intro a E
  iterate 2 (refine zm E rfl (fun w h => zBp (vs := [_, _, _, _]) E rfl rfl rfl (h.one (by repeat (first | exact mm1 | assumption | apply List.Mem.tail))) rfl rfl) ?_; clear E a; intro a E)
  refine zCl E rfl rfl rfl (by decide) rfl Tryz.func40 rfl (by kernel_rfl) rfl (zLf own _ _ S.hp hokO) ?_
  rintro v34 w ⟨C7, hB7, hT⟩; clear E a; intro a E
  have S := S.all hT
  refine ⟨S.stab.sub (by first | (simp; done) | (simp +contextual; done) | (simp [*]; done)), ?_⟩
  refine zDm rfl rfl (zCn (by' := 1) E S rfl rfl (by decide) rfl rfl hB3 (by repeat (first | exact pk1 | apply zAc)) (hB7.rd.src (S.stab.at (by repeat (first | exact mm1 | assumption | apply List.Mem.tail))) rfl) rfl rfl rfl rfl rfl rfl (by simp only [maxLen]; omega) (by omega) ?_); clear E S a; intro a w v35 C35 E S hB35; refine ⟨S.stab.sub (by first | (simp; done) | (simp +contextual; done) | (simp [*]; done)), ?_⟩
  refine zm E rfl (fun w h => zAd E rfl rfl) ?_; clear E a; intro a E
  refine zCu rfl rfl (zBe E S rfl rfl rfl rfl (by simp [Value.oneCell']) rfl (by repeat (first | exact pk1 | apply zAc)) (by simp) ?_); clear E S a; intro a w E S; simp only [List.take_succ_cons, List.take_zero, List.drop_succ_cons, List.drop_zero, List.cons_append, List.nil_append, List.append_nil, List.length_cons, List.length_nil, Nat.zero_add, Nat.add_zero] at S
  refine zBy ?_
  refine zAf hK ?_; clear hK; clear K
  refine wp_ret ?_
  refine ret_tc E rfl rfl rfl (S.get (by repeat (first | exact pk1 | apply zAc))) rfl ?_
  have hB8 : BB C35 v35 (zFi k b ++ zEw own) := zLe hB35
  refine ⟨_, rfl, v35, C35, by rw [← hown], by rw [zDl, ← hown]; exact hB8, ?_⟩
  exact (St.drops [_, _, _, _, _] (S.front1 (A := C35) (by repeat (first | exact pk1 | apply zAc)))).tr
end Go.Proofs.YtbogecljkaimdaaGreatDoor
namespace Go.Proofs.YtbogecljkaimdaaGreatDoor
open Go.Sl
set_option maxRecDepth 10000
theorem uopen_ret (D : zAw) (v : Value) (bs : List UInt8) (w0 : World) (h : Rd D 1 v bs.length (byt bs)) (H : Hp w0 [D]) (hl : bs.length ≤ 140737488355328) :
    Ret Tryz.prog 82 #[v] w0 fun u w' => ∃ p A, u = ptr p ∧ RdC 118 p ⟨bs, 0, 0⟩ A ∧ Trs w0 w' [D] [A, D] := by
  have S := (St.begin H).addNil
  obtain ⟨ad, c, rfl⟩ := h.slice
  refine zCw 7 Tryz.func82 rfl rfl (by decide) ?_; intro a E
  refine wp_seq_k ?_; intro K hK
  refine zAb ?_
  refine zp E (zAd E rfl rfl) ?_; clear E a; intro a E
  refine wpList_nil ?_
  refine zAf hK ?_; clear hK; clear K
  refine wp_seq_k ?_; intro K hK
  refine zAb ?_
  refine zp E (zAe E rfl rfl) ?_; clear E a; intro a E
  refine zAn rfl (zCn (by' := 1) E S rfl rfl (by decide) rfl rfl (Buf.nil 5 1) (by repeat (first | exact pk1 | apply zAc)) (h.src (S.stab.at (by repeat (first | exact mm1 | assumption | apply List.Mem.tail))) rfl) rfl rfl rfl rfl rfl rfl (by simp only [maxLen]; omega) (by omega) ?_); clear E S a; intro a w v4 C4 E S hB4
  rw [Nat.zero_add, List.nil_append] at hB4
  obtain ⟨ad4, c4, rfl⟩ := hB4.slice
  refine zp E (zCg (cells := [_, _, _]) E rfl rfl rfl) ?_; clear E a; intro a E
  refine zAn rfl (zCq E S rfl rfl (by decide) rfl rfl ?_); clear E S a; intro a w b6 E S
  refine zp E (zAd E rfl rfl) ?_; clear E a; intro a E
  refine wpList_nil ?_
  refine zAf hK ?_; clear hK; clear K
  refine wp_ret ?_
  refine ret1 E rfl rfl ?_
  have hc := hB4.cap_le
  have S := S.gather (A := [(b6, _)]) (B := C4) (by repeat (first | exact pk1 | apply zAc)) (by repeat (first | exact pk1 | apply zAc))
  exact ⟨_, rfl, b6, _, rfl, ⟨Nat.zero_le _, hl, _, _, _, rfl, hc, hB4.rd⟩, S.tr⟩
theorem zLg (C : zAw) (v : Value) (bs : List UInt8) (w0 : World) (h : Rd C 1 v bs.length (byt bs)) (hs : ∀ x ∈ C, w0.heap[x.1]? = some x.2) (hl : bs.length ≤ 8) :
    Ret Tryz.prog 121 #[v] w0 fun u w' => u = .int .u64 (zCo bs) ∧ w' = w0 := by
  obtain ⟨ad, c, rfl⟩ := h.slice
  refine zCw 21 Tryz.func121 rfl rfl (by decide) ?_; intro a E
  refine wp_seq_k ?_; intro K hK
  refine zAb ?_
  refine zp E (zAd E rfl rfl) ?_; clear E a; intro a E
  refine wpList_nil ?_
  refine zAf hK ?_; clear hK; clear K
  refine wp_seq_k ?_; intro K hK
  refine zAb ?_
  refine zp E (zAd E rfl rfl) ?_; clear E a; intro a E
  refine wpList_nil ?_
  refine zAf hK ?_; clear hK; clear K
  iterate 2 (refine wp_seq_k ?_; intro K hK)
  refine zAb ?_
  refine zp E (zAe E rfl rfl) ?_; clear E a; intro a E
  refine zp E (by first | exact zBz E rfl rfl rfl | exact zBa E rfl rfl rfl | exact zAr E rfl rfl rfl) ?_; clear E a; intro a E
  refine zp E (zDp E rfl rfl rfl (w_in (by omega))) ?_; clear E a; intro a E
  refine zp E (zAd E rfl rfl) ?_; clear E a; intro a E
  refine wpList_nil ?_
  refine zAf hK ?_; clear hK; clear K
  refine wp_block ?_
  refine wp_loop_ghost (fun (m : Nat) (a : Act) (w' : World) => ∃ k : Nat, k ≤ bs.length ∧ m = k ∧ w' = w0 ∧ Fr a 21 [(0, .slice ad bs.length c), (3, .int .u64 (zCo (bs.drop k))), (4, .int .i64 ((k : Int) - 1))]) (bs.length) ?_ ?_
  · exact ⟨bs.length, by omega, rfl, rfl, by rw [List.drop_length]; exact E.keep (zAa rfl (zAa rfl (zAa rfl zAm)))⟩
  clear E; clear a; (try clear S); rintro m a w ⟨k, hk, hm, rfl, E⟩
  iterate 2 (refine wp_seq_k ?_; intro K hK)
  refine zAb ?_
  refine zp E (zAe E rfl rfl) ?_; clear E a; intro a E
  refine zp E (zEa E rfl rfl rfl) ?_; clear E a; intro a E
  refine wpList_nil ?_
  refine zAf hK ?_; clear hK; clear K
  refine zBg E rfl (fun hb => ?_) (fun hb => ?_)
  · replace hb := Nrm.nrm hb
    refine wp_skip ?_
    refine zAf hK ?_; clear hK; clear K
    refine wp_seq_k ?_; intro K hK
    refine wp_block ?_
    obtain ⟨b, off, rfl⟩ := h.addr (by omega)
    have hcb := h.byte hs (i := k - 1) (by omega)
    have hlt : zCo (bs.drop k) < 72057594037927936 := Nat.lt_of_lt_of_le (zFl _) (Nat.pow_le_pow_right (n := 256) (j := 7) (by omega) (by rw [List.length_drop]; omega))
    have h8 := (bs[k - 1]).toNat_lt
    have hnum : zCo (bs.drop (k - 1)) = 256 * zCo (bs.drop k) + (bs[k - 1]).toNat := by { rw [List.drop_eq_getElem_cons (show k - 1 < bs.length by omega), show k - 1 + 1 = k by omega]; simp only [zCo]; omega }
    refine zAb ?_
    refine zp E (zAe E rfl rfl) ?_; clear E a; intro a E
    refine zp E (zEx E rfl rfl rfl (by first | exact zFh (x := 256) (by omega) | exact zEp (x := 256) (by omega) | exact w_in (by omega) | exact rfl)) ?_; clear E a; intro a E
    iterate 2 (refine zp E (zAe E rfl rfl) ?_; clear E a; intro a E)
    refine zp E (zBm (i := k - 1) E rfl rfl rfl rfl rfl (by omega) (by omega)) ?_; clear E a; intro a E
    refine zp E (zAk E rfl rfl rfl (hcb)) ?_; clear E a; intro a E
    refine zp E (by first | exact zBb E rfl rfl rfl rfl (by first | exact wu8 _ | exact zDu (by omega) | exact zCy (by omega) | exact w_in (by omega) | exact zBr (by omega) | exact rfl) | exact zBx E rfl rfl rfl rfl rfl (by assumption) (S.stab.at (by simp))) ?_; clear E a; intro a E
    refine zp E (zBs E rfl rfl rfl ((congrArg _ (Int.natCast_add _ _).symm).trans (zCy (by omega)))) ?_; clear E a; intro a E
    refine zp E (zAd E rfl rfl) ?_; clear E a; intro a E
    refine wpList_nil ?_
    refine zBf ?_
    refine zAf hK ?_; clear hK; clear K
    refine zAb ?_
    refine zp E (zAe E rfl rfl) ?_; clear E a; intro a E
    refine zp E (zDp E rfl rfl rfl (r := ((k - 1 : Nat) : Int) - 1) (by rw [show ((k : Int) - 1 - 1) = ((k - 1 : Nat) : Int) - 1 by omega]; exact w_in (by omega))) ?_; clear E a; intro a E
    refine zp E (zAd E rfl rfl) ?_; clear E a; intro a E
    refine wpList_nil ?_
    refine zBo ?_
    exact ⟨k - 1, by omega, k - 1, by omega, rfl, rfl, by rw [hnum]; exact E.keep (zAa rfl (zAa rfl (zAa rfl zAm)))⟩
  · replace hb := Nrm.nrm hb
    refine wp_exit ?_
    refine zBc ?_; clear hK; clear K
    refine zBc ?_
    refine zCk ?_
    refine zAf hK ?_; clear hK; clear K
    refine wp_seq_k ?_; intro K hK
    refine zAb ?_
    refine zp E (zAe E rfl rfl) ?_; clear E a; intro a E
    refine zp E (zAd E rfl rfl) ?_; clear E a; intro a E
    refine wpList_nil ?_
    refine zAf hK ?_; clear hK; clear K
    refine wp_ret ?_
    refine ret1 E rfl rfl ?_
    obtain rfl : k = 0 := by omega
    exact ⟨_, rfl, rfl, rfl⟩
theorem zLh (p : Nat) (s : Rdr) (A : zAw) (w0 : World) (hA : RdC 118 p s A) (H : Hp w0 [A]) (k : Int) (hk : k ≤ 9223372036854775807) :
    Ret Tryz.prog 110 #[ptr p, .int .i64 k] w0 fun u w' => ∃ A' C, RdC 118 p (s.bytes k).2 A' ∧ Trs w0 w' [A] [A', C] ∧ Buf C 5 1 u (s.bytes k).1.length (byt (s.bytes k).1) := by
  obtain ⟨hat, hlen, ad, c, C, rfl, hc, hR⟩ := hA
  have S := (St.begin H).split
  refine zCm 57 Tryz.func110 rfl rfl (by decide) ?_; intro a E
  refine wp_seq_k ?_; intro K hK
  refine zAb ?_
  refine zp E (zAd E rfl rfl) ?_; clear E a; intro a E
  refine wpList_nil ?_
  refine zAf hK ?_; clear hK; clear K
  iterate 2 (refine wp_seq_k ?_; intro K hK)
  refine zAb ?_
  refine zp E (zAe E rfl rfl) ?_; clear E a; intro a E
  refine zp E (zAz E rfl rfl) ?_; clear E a; intro a E
  refine zp E (by first | exact zAg (q := 2) E rfl rfl rfl | exact zAh (q := 2) E rfl rfl rfl) ?_; clear E a; intro a E
  refine zp E (by first | exact zAo E rfl rfl rfl (S.get (by repeat (first | exact pk1 | apply zAc))) rfl | exact zAk E rfl rfl rfl (by assumption)) ?_; clear E a; intro a E
  refine zp E (by first | exact zCx E rfl rfl rfl | exact zBh E rfl rfl rfl rfl | exact zBq E rfl rfl rfl rfl | exact zBl E rfl rfl rfl) ?_; clear E a; intro a E
  refine wpList_nil ?_
  refine zAf hK ?_; clear hK; clear K
  refine zBg E rfl (fun hb => ?_) (fun hb => ?_)
  · replace hb := Nrm.nrm hb
    refine wp_seq_k ?_; intro K hK
    refine zAb ?_
    refine zp E (zAd E rfl rfl) ?_; clear E a; intro a E
    refine wpList_nil ?_
    refine zAf hK ?_; clear hK; clear K
    refine wp_ret ?_
    refine zAy ?_; clear hK; clear K
    refine ret1 E rfl rfl ?_
    have hv : s.bytes k = ([], s) := by simp [Rdr.bytes, show s.e ≠ 0 by omega]
    exact ⟨_, rfl, _, [], by rw [hv]; exact ⟨hat, hlen, ad, c, C, rfl, hc, hR⟩, (S.join.addNil.perm (Bs := [_, []]) (zAj (by repeat (first | exact pk1 | apply zAc)) (zAj (by repeat (first | exact pk1 | apply zAc)) (zAq _)))).tr, by rw [hv]; exact Buf.nil _ _⟩
  · replace hb := Nrm.nrm hb
    refine wp_skip ?_
    refine zAf hK ?_; clear hK; clear K
    iterate 2 (refine wp_seq_k ?_; intro K hK)
    refine zAb ?_
    refine zp E (zAe E rfl rfl) ?_; clear E a; intro a E
    refine zp E (zCj E rfl rfl rfl) ?_; clear E a; intro a E
    refine wpList_nil ?_
    refine zAf hK ?_; clear hK; clear K
    refine zBg E rfl (fun hb => ?_) (fun hb => ?_)
    · replace hb := Nrm.nrm hb
      refine wp_seq_k ?_; intro K hK
      refine zAb ?_
      refine zp E (zAe E rfl rfl) ?_; clear E a; intro a E
      refine zp E (zAz E rfl rfl) ?_; clear E a; intro a E
      refine zp E (by first | exact zAg (q := 2) E rfl rfl rfl | exact zAh (q := 2) E rfl rfl rfl) ?_; clear E a; intro a E
      refine zAn rfl (zBk E S rfl rfl rfl rfl rfl rfl (by repeat (first | exact pk1 | apply zAc)) (by first | exact Nat.le_of_ble_eq_true rfl | (simp; done) | (simp; omega)) ?_); clear E S a; intro a w E S; try dsimp only [List.set] at S
      refine wpList_nil ?_
      refine zAf hK ?_; clear hK; clear K
      refine wp_seq_k ?_; intro K hK
      refine zAb ?_
      refine zp E (zAd E rfl rfl) ?_; clear E a; intro a E
      refine wpList_nil ?_
      refine zAf hK ?_; clear hK; clear K
      refine wp_ret ?_
      refine zAy ?_; clear hK; clear K
      refine ret1 E rfl rfl ?_
      have hv : s.bytes k = ([], { s with e := 1 }) := by simp [Rdr.bytes, show s.e = 0 by omega, show k < 0 by omega]
      exact ⟨_, rfl, _, [], by rw [hv]; exact ⟨hat, hlen, ad, c, C, rfl, hc, hR⟩, (S.join.addNil.perm (Bs := [_, []]) (zAj (by repeat (first | exact pk1 | apply zAc)) (zAj (by repeat (first | exact pk1 | apply zAc)) (zAq _)))).tr, by rw [hv]; exact Buf.nil _ _⟩
    · replace hb := Nrm.nrm hb
      refine wp_skip ?_
      refine zAf hK ?_; clear hK; clear K
      iterate 2 (refine wp_seq_k ?_; intro K hK)
      obtain ⟨kn, rfl⟩ : ∃ kn : Nat, k = kn := ⟨k.toNat, by omega⟩
      refine zBw S (.ofL [(0, 0), (1, 0), (2, 0), (3, 0), (4, 0), (5, 0), (6, 0), (7, 0), (8, 0), (9, 0), (10, 0), (11, 0)]) (by kernel_rfl) (by kernel_rfl) ?_
      clear S; intro w S
      iterate 2 (refine zm E rfl (fun w h => zAe E rfl rfl) ?_; clear E a; intro a E)
      refine zm E rfl (fun w h => zAz E rfl rfl) ?_; clear E a; intro a E
      refine zm E rfl (fun w h => by first | exact zAg (q := 0) E rfl rfl rfl | exact zAh (q := 0) E rfl rfl rfl) ?_; clear E a; intro a E
      refine zm E rfl (fun w h => by first | exact zAo E rfl rfl rfl (h.one (by repeat (first | exact mm1 | assumption | apply List.Mem.tail))) rfl | exact zAk E rfl rfl rfl (by assumption)) ?_; clear E a; intro a E
      refine zm E rfl (fun w h => by first | exact zBz E rfl rfl rfl | exact zBa E rfl rfl rfl | exact zAr E rfl rfl rfl) ?_; clear E a; intro a E
      refine zm E rfl (fun w h => zAe E rfl rfl) ?_; clear E a; intro a E
      refine zm E rfl (fun w h => zAz E rfl rfl) ?_; clear E a; intro a E
      refine zm E rfl (fun w h => by first | exact zAg (q := 1) E rfl rfl rfl | exact zAh (q := 1) E rfl rfl rfl) ?_; clear E a; intro a E
      refine zm E rfl (fun w h => by first | exact zAo E rfl rfl rfl (h.one (by repeat (first | exact mm1 | assumption | apply List.Mem.tail))) rfl | exact zAk E rfl rfl rfl (by assumption)) ?_; clear E a; intro a E
      refine zm E rfl (fun w h => zDp E rfl rfl rfl (by first | exact ws1 (by omega) (by omega) | exact w_in (by omega) | exact zBr (by omega) | exact rfl)) ?_; clear E a; intro a E
      refine zm E rfl (fun w h => zDq E rfl rfl rfl) ?_; clear E a; intro a E
      refine zBy ?_
      refine zAf hK ?_; clear hK; clear K
      refine zBg E rfl (fun hb => ?_) (fun hb => ?_)
      · replace hb := Nrm.nrm hb
        refine wp_seq_k ?_; intro K hK
        refine zAb ?_
        refine zp E (zAe E rfl rfl) ?_; clear E a; intro a E
        refine zp E (zAz E rfl rfl) ?_; clear E a; intro a E
        refine zp E (by first | exact zAg (q := 2) E rfl rfl rfl | exact zAh (q := 2) E rfl rfl rfl) ?_; clear E a; intro a E
        refine zAn rfl (zBk E S rfl rfl rfl rfl rfl rfl (by repeat (first | exact pk1 | apply zAc)) (by first | exact Nat.le_of_ble_eq_true rfl | (simp; done) | (simp; omega)) ?_); clear E S a; intro a w E S; try dsimp only [List.set] at S
        refine wpList_nil ?_
        refine zAf hK ?_; clear hK; clear K
        refine wp_seq_k ?_; intro K hK
        replace E := E.keep (e' := [(0, _), (1, _), (4, _)]) (zAa rfl (zAa rfl (zAa rfl (zAm))))
        refine zAb ?_
        refine zp E (zAd E rfl rfl) ?_; clear E a; intro a E
        refine wpList_nil ?_
        refine zAf hK ?_; clear hK; clear K
        refine wp_ret ?_
        refine zAy ?_; clear hK; clear K
        refine ret1 E rfl rfl ?_
        have hv : s.bytes kn = ([], { s with e := 10 }) := by simp [Rdr.bytes, show s.e = 0 by omega, show ¬ (kn : Int) < 0 by omega, show s.bs.length < s.at_ + kn by omega]
        exact ⟨_, rfl, _, [], by rw [hv]; exact ⟨hat, hlen, ad, c, C, rfl, hc, hR⟩, (S.join.addNil.perm (Bs := [_, []]) (zAj (by repeat (first | exact pk1 | apply zAc)) (zAj (by repeat (first | exact pk1 | apply zAc)) (zAq _)))).tr, by rw [hv]; exact Buf.nil _ _⟩
      · replace hb := Nrm.nrm hb
        refine wp_skip ?_
        refine zAf hK ?_; clear hK; clear K
        refine wp_seq_k ?_; intro K hK
        have S := S.addNil
        refine zBw S (.ofL [(0, 0), (1, 0), (2, 0), (3, 0), (4, 0), (5, 0), (6, 0), (7, 0), (8, 0), (9, 0), (10, 0), (11, 0), (12, 0), (13, 0), (14, 0), (15, 3), (16, 2)]) (by kernel_rfl) (by kernel_rfl) ?_
        clear S; intro w S
        refine zm E rfl (fun w h => zAe E rfl rfl) ?_; clear E a; intro a E
        refine zm E rfl (fun w h => zAz E rfl rfl) ?_; clear E a; intro a E
        refine zm E rfl (fun w h => by first | exact zAg (q := 0) E rfl rfl rfl | exact zAh (q := 0) E rfl rfl rfl) ?_; clear E a; intro a E
        refine zm E rfl (fun w h => by first | exact zAo E rfl rfl rfl (h.one (by repeat (first | exact mm1 | assumption | apply List.Mem.tail))) rfl | exact zAk E rfl rfl rfl (by assumption)) ?_; clear E a; intro a E
        refine zm E rfl (fun w h => zAe E rfl rfl) ?_; clear E a; intro a E
        refine zm E rfl (fun w h => zAz E rfl rfl) ?_; clear E a; intro a E
        refine zm E rfl (fun w h => by first | exact zAg (q := 1) E rfl rfl rfl | exact zAh (q := 1) E rfl rfl rfl) ?_; clear E a; intro a E
        refine zm E rfl (fun w h => by first | exact zAo E rfl rfl rfl (h.one (by repeat (first | exact mm1 | assumption | apply List.Mem.tail))) rfl | exact zAk E rfl rfl rfl (by assumption)) ?_; clear E a; intro a E
        refine zm E rfl (fun w h => zAe E rfl rfl) ?_; clear E a; intro a E
        refine zm E rfl (fun w h => zAz E rfl rfl) ?_; clear E a; intro a E
        refine zm E rfl (fun w h => by first | exact zAg (q := 1) E rfl rfl rfl | exact zAh (q := 1) E rfl rfl rfl) ?_; clear E a; intro a E
        refine zm E rfl (fun w h => by first | exact zAo E rfl rfl rfl (h.one (by repeat (first | exact mm1 | assumption | apply List.Mem.tail))) rfl | exact zAk E rfl rfl rfl (by assumption)) ?_; clear E a; intro a E
        refine zm E rfl (fun w h => zAe E rfl rfl) ?_; clear E a; intro a E
        refine zm E rfl (fun w h => zBs E rfl rfl rfl (by first | exact wa1 (by omega) | exact w_in (by omega) | exact zBr (by omega) | exact rfl)) ?_; clear E a; intro a E
        refine zm E rfl (fun w h => zEd (s := 1) E rfl rfl rfl rfl rfl rfl rfl rfl (by omega) (by omega)) ?_; clear E a; intro a E
        obtain ⟨ad2, c2, hs2, hR2⟩ := hR.cut (lo := s.at_) (hi := s.at_ + kn) (by omega) (by omega) (by omega)
        rw [hs2] at E
        have hcl := s.cut_length kn 0 (by omega)
        have hR2 : Rd C 1 (.slice ad2 (s.at_ + kn - s.at_) c2) (s.cut kn 0).length (byt (s.cut kn 0)) := by { rw [hcl]; simpa [zFj, zGn, Rdr.cut, Nat.add_sub_cancel_left] using hR2 }
        refine zCu rfl rfl (zCn (by' := 1) E S rfl rfl (by decide) rfl rfl (Buf.nil 5 1) (by repeat (first | exact pk1 | apply zAc)) (hR2.src (S.stab.at (by repeat (first | exact mm1 | assumption | apply List.Mem.tail))) rfl) rfl rfl rfl rfl rfl rfl (by simp only [maxLen]; omega) (by omega) ?_); clear E S a; intro a w v46 C46 E S hB46
        rw [Nat.zero_add, List.nil_append] at hB46
        refine zDa E rfl rfl rfl (by decide) (fun w => zAd E rfl rfl) ?_; clear E a; intro a E
        refine zBy ?_
        refine zAf hK ?_; clear hK; clear K
        refine wp_seq_k ?_; intro K hK
        replace E := E.keep (e' := [(0, _), (1, _), (4, _), (5, _)]) (zAa rfl (zAa rfl (zAa rfl (zAa rfl (zAm)))))
        refine zAb ?_
        iterate 2 (refine zp E (zAe E rfl rfl) ?_; clear E a; intro a E)
        refine zp E (zAz E rfl rfl) ?_; clear E a; intro a E
        refine zp E (by first | exact zAg (q := 1) E rfl rfl rfl | exact zAh (q := 1) E rfl rfl rfl) ?_; clear E a; intro a E
        refine zp E (by first | exact zAo E rfl rfl rfl (S.get (by repeat (first | exact pk1 | apply zAc))) rfl | exact zAk E rfl rfl rfl (by assumption)) ?_; clear E a; intro a E
        refine zp E (zAe E rfl rfl) ?_; clear E a; intro a E
        refine zp E (zBs E rfl rfl rfl (by first | exact wa1 (by omega) | exact w_in (by omega) | exact zBr (by omega) | exact rfl)) ?_; clear E a; intro a E
        refine zp E (zAz E rfl rfl) ?_; clear E a; intro a E
        refine zp E (by first | exact zAg (q := 1) E rfl rfl rfl | exact zAh (q := 1) E rfl rfl rfl) ?_; clear E a; intro a E
        refine zAn rfl (zBk E S rfl rfl rfl rfl rfl rfl (by repeat (first | exact pk1 | apply zAc)) (by first | exact Nat.le_of_ble_eq_true rfl | (simp; done) | (simp; omega)) ?_); clear E S a; intro a w E S; try dsimp only [List.set] at S
        refine wpList_nil ?_
        refine zAf hK ?_; clear hK; clear K
        refine wp_seq_k ?_; intro K hK
        refine zAb ?_
        refine zp E (zAe E rfl rfl) ?_; clear E a; intro a E
        refine zp E (zAd E rfl rfl) ?_; clear E a; intro a E
        refine wpList_nil ?_
        refine zAf hK ?_; clear hK; clear K
        refine wp_ret ?_
        refine ret1 E rfl rfl ?_
        have hv : s.bytes kn = (s.cut kn 0, { s with at_ := s.at_ + kn }) := by simp [Rdr.bytes, show s.e = 0 by omega, show ¬ (kn : Int) < 0 by omega, show ¬ s.bs.length < s.at_ + kn by omega]
        have S := (S.perm (Bs := [[(p, _)], C, C46]) (zAj (by repeat (first | exact pk1 | apply zAc)) (zAj (by repeat (first | exact pk1 | apply zAc)) (zAj (by repeat (first | exact pk1 | apply zAc)) (zAq _))))).join
        exact ⟨_, rfl, _, C46, by rw [hv]; exact ⟨by simp only; omega, hlen, ad, c, C, rfl, hc, hR⟩, S.tr, by rw [hv]; exact hB46⟩
theorem zEo (p : Nat) (s : Rdr) (A : zAw) (w0 : World) (hA : RdC 118 p s A) (H : Hp w0 [A]) (k : Int) :
    Ret Tryz.prog 107 #[ptr p, .int .i64 k] w0 fun u w' => ∃ A', u = .int .u64 (s.num k).1 ∧ RdC 118 p (s.num k).2 A' ∧ Trs w0 w' [A] [A'] := by
  have hA0 := hA
  obtain ⟨hat, hlen, ad, c, C, hAe, hc, hR⟩ := hA
  have S := St.begin H
  have S := (by rw [hAe] at S; exact S.split : St w0 _ w0 ([(p, cel [.slice ad s.bs.length c, .int .i64 s.at_, .int .i64 s.e] 118)] :: C :: _))
  refine zCm 25 Tryz.func107 rfl rfl (by decide) ?_; intro a E
  refine wp_seq_k ?_; intro K hK
  refine zAb ?_
  refine zp E (zAd E rfl rfl) ?_; clear E a; intro a E
  refine wpList_nil ?_
  refine zAf hK ?_; clear hK; clear K
  iterate 2 (refine wp_seq_k ?_; intro K hK)
  refine zAb ?_
  refine zp E (zAe E rfl rfl) ?_; clear E a; intro a E
  refine zp E (zAz E rfl rfl) ?_; clear E a; intro a E
  refine zp E (by first | exact zAg (q := 2) E rfl rfl rfl | exact zAh (q := 2) E rfl rfl rfl) ?_; clear E a; intro a E
  refine zp E (by first | exact zAo E rfl rfl rfl (S.get (by repeat (first | exact pk1 | apply zAc))) rfl | exact zAk E rfl rfl rfl (by assumption)) ?_; clear E a; intro a E
  refine zp E (by first | exact zCx E rfl rfl rfl | exact zBh E rfl rfl rfl rfl | exact zBq E rfl rfl rfl rfl | exact zBl E rfl rfl rfl) ?_; clear E a; intro a E
  refine wpList_nil ?_
  refine zAf hK ?_; clear hK; clear K
  refine zBg E rfl (fun hb => ?_) (fun hb => ?_)
  · replace hb := Nrm.nrm hb
    refine wp_seq_k ?_; intro K hK
    refine zAb ?_
    refine zp E (zAd E rfl rfl) ?_; clear E a; intro a E
    refine wpList_nil ?_
    refine zAf hK ?_; clear hK; clear K
    refine wp_ret ?_
    refine zAy ?_; clear hK; clear K
    refine ret1 E rfl rfl ?_
    have S := S.join; rw [← hAe] at S
    have hv : s.num k = (0, s) := by simp [Rdr.num, show s.e ≠ 0 by omega]
    exact ⟨_, rfl, A, by rw [hv]; rfl, by rw [hv]; exact hA0, S.tr⟩
  · replace hb := Nrm.nrm hb
    refine wp_skip ?_
    refine zAf hK ?_; clear hK; clear K
    iterate 2 (refine wp_seq_k ?_; intro K hK)
    refine zAb ?_
    refine zp E (zAe E rfl rfl) ?_; clear E a; intro a E
    refine zp E (zCj E rfl rfl rfl) ?_; clear E a; intro a E
    refine zp E (zAe E rfl rfl) ?_; clear E a; intro a E
    refine zAs E (t := 13) rfl (fun hb13 => ?_) (fun hb13 => ?_)
    · have hb13n := hb13; replace hb13n := Nrm.nrm hb13n
      iterate 2 (refine zn E hb13 ?_; clear E a; intro a E)
      refine zp E (zAl E rfl rfl hb13 rfl) ?_; clear E a; intro a E
      refine wpList_nil ?_
      refine zAf hK ?_; clear hK; clear K
      refine zCf E rfl rfl ?_
      refine wp_seq_k ?_; intro K hK
      refine zAb ?_
      refine zp E (zAe E rfl rfl) ?_; clear E a; intro a E
      refine zp E (zAz E rfl rfl) ?_; clear E a; intro a E
      refine zp E (by first | exact zAg (q := 2) E rfl rfl rfl | exact zAh (q := 2) E rfl rfl rfl) ?_; clear E a; intro a E
      refine zAn rfl (zBk E S rfl rfl rfl rfl rfl rfl (by repeat (first | exact pk1 | apply zAc)) (by first | exact Nat.le_of_ble_eq_true rfl | (simp; done) | (simp; omega)) ?_); clear E S a; intro a w E S; try dsimp only [List.set] at S
      refine wpList_nil ?_
      refine zAf hK ?_; clear hK; clear K
      refine wp_seq_k ?_; intro K hK
      refine zAb ?_
      refine zp E (zAd E rfl rfl) ?_; clear E a; intro a E
      refine wpList_nil ?_
      refine zAf hK ?_; clear hK; clear K
      refine wp_ret ?_
      refine zAy ?_; clear hK; clear K
      refine ret1 E rfl rfl ?_
      have hv : s.num k = (0, { s with e := 1 }) := by simp only [Rdr.num]; rw [if_neg (by omega), if_pos (by omega)]
      exact ⟨_, rfl, _, by rw [hv]; rfl, by rw [hv]; exact ⟨hat, hlen, ad, c, C, rfl, hc, hR⟩, by rw [hAe]; exact S.join.tr⟩
    · have hb13n := hb13; replace hb13n := Nrm.nrm hb13n
      refine zy E hb13 (zAe E rfl rfl) ?_; clear E a; intro a E
      refine zy E hb13 (zDq E rfl rfl rfl) ?_; clear E a; intro a E
      refine zp E (zAi E rfl rfl hb13 rfl) ?_; clear E a; intro a E
      refine wpList_nil ?_
      refine zAf hK ?_; clear hK; clear K
      refine zBg E rfl (fun hb => ?_) (fun hb => ?_)
      · replace hb := Nrm.nrm hb
        refine wp_seq_k ?_; intro K hK
        refine zAb ?_
        refine zp E (zAe E rfl rfl) ?_; clear E a; intro a E
        refine zp E (zAz E rfl rfl) ?_; clear E a; intro a E
        refine zp E (by first | exact zAg (q := 2) E rfl rfl rfl | exact zAh (q := 2) E rfl rfl rfl) ?_; clear E a; intro a E
        refine zAn rfl (zBk E S rfl rfl rfl rfl rfl rfl (by repeat (first | exact pk1 | apply zAc)) (by first | exact Nat.le_of_ble_eq_true rfl | (simp; done) | (simp; omega)) ?_); clear E S a; intro a w E S; try dsimp only [List.set] at S
        refine wpList_nil ?_
        refine zAf hK ?_; clear hK; clear K
        refine wp_seq_k ?_; intro K hK
        refine zAb ?_
        refine zp E (zAd E rfl rfl) ?_; clear E a; intro a E
        refine wpList_nil ?_
        refine zAf hK ?_; clear hK; clear K
        refine wp_ret ?_
        refine zAy ?_; clear hK; clear K
        refine ret1 E rfl rfl ?_
        have hv : s.num k = (0, { s with e := 1 }) := by simp only [Rdr.num]; rw [if_neg (by omega), if_pos (by omega)]
        exact ⟨_, rfl, _, by rw [hv]; rfl, by rw [hv]; exact ⟨hat, hlen, ad, c, C, rfl, hc, hR⟩, by rw [hAe]; exact S.join.tr⟩
      · replace hb := Nrm.nrm hb
        refine wp_skip ?_
        refine zAf hK ?_; clear hK; clear K
        refine wp_seq_k ?_; intro K hK
        have S := S.join; rw [← hAe] at S
        obtain ⟨kn, rfl⟩ : ∃ kn : Nat, k = kn := ⟨k.toNat, by omega⟩
        refine zAb ?_
        iterate 2 (refine zp E (zAe E rfl rfl) ?_; clear E a; intro a E)
        refine zAp E rfl rfl (by decide) rfl Tryz.func110 rfl (by kernel_rfl) rfl (zLh p s A _ hA0 S.hp kn (by omega)) ?_
        rintro v22 w ⟨A1, C1, hA1, hT, hB1⟩; clear E a; intro a E
        have S := S.all hT
        obtain ⟨ad1, c1, rfl⟩ := hB1.slice
        have hbl : (s.bytes kn).1.length ≤ 8 := by { simp only [Rdr.bytes]; split; simp; split; simp; split; simp; simp only [Rdr.cut, List.length_take, Int.toNat_natCast]; omega }
        refine zp E (zAd E rfl rfl) ?_; clear E a; intro a E
        refine wpList_nil ?_
        refine zAf hK ?_; clear hK; clear K
        refine wp_seq_k ?_; intro K hK
        refine zAb ?_
        refine zp E (zAe E rfl rfl) ?_; clear E a; intro a E
        refine zAp E rfl rfl (by decide) rfl Tryz.func121 rfl (by kernel_rfl) rfl (zLg C1 _ (s.bytes kn).1 _ hB1.rd (S.stab.at (by repeat (first | exact mm1 | assumption | apply List.Mem.tail))) hbl) ?_
        rintro v24 w ⟨rfl, rfl⟩; clear E a; intro a E
        refine zp E (zAd E rfl rfl) ?_; clear E a; intro a E
        refine wpList_nil ?_
        refine zAf hK ?_; clear hK; clear K
        refine wp_ret ?_
        refine ret1 E rfl rfl ?_
        have he : s.e = 0 := by omega
        have hv : s.num kn = (zCo (s.bytes kn).1, (s.bytes kn).2) := by { by_cases hsh : s.bs.length < s.at_ + kn <;> simp [Rdr.num, Rdr.bytes, he, hsh, zCo, show ¬ ((kn : Int) < 1 ∨ 8 < (kn : Int)) by omega, show ¬ (kn : Int) < 0 by omega] }
        exact ⟨_, rfl, A1, by rw [hv], by rw [hv]; exact hA1, (S.only (Bs := [A1]) (zAj (by repeat (first | exact pk1 | apply zAc)) (zAq _))).tr⟩
theorem udone_ret (p : Nat) (s : Rdr) (A : zAw) (w0 : World) (hA : RdC 118 p s A) (H : Hp w0 [A]) :
    Ret Tryz.prog 84 #[ptr p] w0 fun u w' => u = .int .i64 s.done ∧ Trs w0 w' [A] [A] := by
  obtain ⟨hat, hlen, ad, c, C, rfl, hc, hR⟩ := hA
  have S := (St.begin H).split
  refine zCw 24 Tryz.func84 rfl rfl (by decide) ?_; intro a E
  refine wp_seq_k ?_; intro K hK
  refine zAb ?_
  refine zp E (zAd E rfl rfl) ?_; clear E a; intro a E
  refine wpList_nil ?_
  refine zAf hK ?_; clear hK; clear K
  iterate 2 (refine wp_seq_k ?_; intro K hK)
  refine zBw S (.ofL [(0, 0), (1, 0), (2, 0), (3, 0), (4, 0), (5, 0), (6, 0), (7, 0), (8, 0), (9, 0), (10, 0), (11, 0), (12, 0), (13, 0), (14, 0), (15, 0), (16, 0)]) (by kernel_rfl) (by kernel_rfl) ?_
  clear S; intro w S
  refine zm E rfl (fun w h => zAe E rfl rfl) ?_; clear E a; intro a E
  refine zm E rfl (fun w h => zAz E rfl rfl) ?_; clear E a; intro a E
  refine zm E rfl (fun w h => by first | exact zAg (q := 2) E rfl rfl rfl | exact zAh (q := 2) E rfl rfl rfl) ?_; clear E a; intro a E
  refine zm E rfl (fun w h => by first | exact zAo E rfl rfl rfl (h.one (by repeat (first | exact mm1 | assumption | apply List.Mem.tail))) rfl | exact zAk E rfl rfl rfl (by assumption)) ?_; clear E a; intro a E
  refine zm E rfl (fun w h => by first | exact zCe E rfl rfl rfl | exact zAt E rfl rfl rfl rfl | exact zBd E rfl rfl rfl rfl | exact zAv E rfl rfl rfl) ?_; clear E a; intro a E
  refine zm E rfl (fun w h => zAe E rfl rfl) ?_; clear E a; intro a E
  refine zAs E (t := 8) rfl (fun hb8 => ?_) (fun hb8 => ?_)
  · have hb8n := hb8; replace hb8n := Nrm.nrm hb8n
    refine zAx E rfl rfl rfl rfl rfl hb8 rfl (by decide) (fun w h => zAe E rfl rfl) ?_; clear E a; intro a E
    refine zAx E rfl rfl rfl rfl rfl hb8 rfl (by decide) (fun w h => zAz E rfl rfl) ?_; clear E a; intro a E
    refine zAx E rfl rfl rfl rfl rfl hb8 rfl (by decide) (fun w h => by first | exact zAg (q := 1) E rfl rfl rfl | exact zAh (q := 1) E rfl rfl rfl) ?_; clear E a; intro a E
    refine zAx E rfl rfl rfl rfl rfl hb8 rfl (by decide) (fun w h => by first | exact zAo E rfl rfl rfl (h.one (by repeat (first | exact mm1 | assumption | apply List.Mem.tail))) rfl | exact zAk E rfl rfl rfl (by assumption)) ?_; clear E a; intro a E
    refine zAx E rfl rfl rfl rfl rfl hb8 rfl (by decide) (fun w h => zAe E rfl rfl) ?_; clear E a; intro a E
    refine zAx E rfl rfl rfl rfl rfl hb8 rfl (by decide) (fun w h => zAz E rfl rfl) ?_; clear E a; intro a E
    refine zAx E rfl rfl rfl rfl rfl hb8 rfl (by decide) (fun w h => by first | exact zAg (q := 0) E rfl rfl rfl | exact zAh (q := 0) E rfl rfl rfl) ?_; clear E a; intro a E
    refine zAx E rfl rfl rfl rfl rfl hb8 rfl (by decide) (fun w h => by first | exact zAo E rfl rfl rfl (h.one (by repeat (first | exact mm1 | assumption | apply List.Mem.tail))) rfl | exact zAk E rfl rfl rfl (by assumption)) ?_; clear E a; intro a E
    refine zAx E rfl rfl rfl rfl rfl hb8 rfl (by decide) (fun w h => by first | exact zBz E rfl rfl rfl | exact zBa E rfl rfl rfl | exact zAr E rfl rfl rfl) ?_; clear E a; intro a E
    refine zAx E rfl rfl rfl rfl rfl hb8 rfl (by decide) (fun w h => zCj E rfl rfl rfl) ?_; clear E a; intro a E
    refine zm E rfl (fun w h => zAl E rfl rfl hb8 rfl) ?_; clear E a; intro a E
    refine zBy ?_
    refine zAf hK ?_; clear hK; clear K
    refine zBg E rfl (fun hb => ?_) (fun hb => ?_)
    · replace hb := Nrm.nrm hb
      refine wp_seq_k ?_; intro K hK
      refine zAb ?_
      refine zp E (zAd E rfl rfl) ?_; clear E a; intro a E
      refine wpList_nil ?_
      refine zAf hK ?_; clear hK; clear K
      refine wp_ret ?_
      refine zAy ?_; clear hK; clear K
      refine ret1 E rfl rfl ?_
      exact ⟨_, rfl, by simp only [Rdr.done]; rw [if_pos (by omega)]; rfl, S.join.tr⟩
    · replace hb := Nrm.nrm hb
      refine wp_skip ?_
      refine zAf hK ?_; clear hK; clear K
      refine wp_seq_k ?_; intro K hK
      refine zAb ?_
      refine zp E (zAe E rfl rfl) ?_; clear E a; intro a E
      refine zp E (zAz E rfl rfl) ?_; clear E a; intro a E
      refine zp E (by first | exact zAg (q := 2) E rfl rfl rfl | exact zAh (q := 2) E rfl rfl rfl) ?_; clear E a; intro a E
      refine zp E (by first | exact zAo E rfl rfl rfl (S.get (by repeat (first | exact pk1 | apply zAc))) rfl | exact zAk E rfl rfl rfl (by assumption)) ?_; clear E a; intro a E
      refine zp E (zAd E rfl rfl) ?_; clear E a; intro a E
      refine wpList_nil ?_
      refine zAf hK ?_; clear hK; clear K
      refine wp_ret ?_
      refine ret1 E rfl rfl ?_
      exact ⟨_, rfl, by simp only [Rdr.done]; rw [if_neg (by omega)], S.join.tr⟩
  · have hb8n := hb8; replace hb8n := Nrm.nrm hb8n
    iterate 10 (refine zCc E rfl rfl rfl rfl rfl hb8 rfl (by decide) ?_; clear E a; intro a E)
    refine zm E rfl (fun w h => zAi E rfl rfl hb8 rfl) ?_; clear E a; intro a E
    refine zBy ?_
    refine zAf hK ?_; clear hK; clear K
    refine zDj E rfl rfl ?_
    refine wp_skip ?_
    refine zAf hK ?_; clear hK; clear K
    refine wp_seq_k ?_; intro K hK
    refine zAb ?_
    refine zp E (zAe E rfl rfl) ?_; clear E a; intro a E
    refine zp E (zAz E rfl rfl) ?_; clear E a; intro a E
    refine zp E (by first | exact zAg (q := 2) E rfl rfl rfl | exact zAh (q := 2) E rfl rfl rfl) ?_; clear E a; intro a E
    refine zp E (by first | exact zAo E rfl rfl rfl (S.get (by repeat (first | exact pk1 | apply zAc))) rfl | exact zAk E rfl rfl rfl (by assumption)) ?_; clear E a; intro a E
    refine zp E (zAd E rfl rfl) ?_; clear E a; intro a E
    refine wpList_nil ?_
    refine zAf hK ?_; clear hK; clear K
    refine wp_ret ?_
    refine ret1 E rfl rfl ?_
    exact ⟨_, rfl, by simp only [Rdr.done]; rw [if_neg (by omega)], S.join.tr⟩
theorem zHi (p : Nat) (s : Rdr) (A : zAw) (w0 : World) (hA : RdC 118 p s A) (H : Hp w0 [A]) (most : Int) :
    Ret Tryz.prog 106 #[ptr p, .int .i64 most] w0 fun u w' => ∃ A', u = str (s.text most).1 ∧ RdC 118 p (s.text most).2 A' ∧ Trs w0 w' [A] [A'] := by
  obtain ⟨hat, hlen, ad, c, C, rfl, hc, hR⟩ := hA
  have S := (St.begin H).split
  refine zCm 93 Tryz.func106 rfl rfl (by decide) ?_; intro a E
  refine wp_seq_k ?_; intro K hK
  refine zAb ?_
  refine zp E (zAd E rfl rfl) ?_; clear E a; intro a E
  refine wpList_nil ?_
  refine zAf hK ?_; clear hK; clear K
  iterate 2 (refine wp_seq_k ?_; intro K hK)
  refine zAb ?_
  refine zp E (zAe E rfl rfl) ?_; clear E a; intro a E
  refine zp E (zAz E rfl rfl) ?_; clear E a; intro a E
  refine zp E (by first | exact zAg (q := 2) E rfl rfl rfl | exact zAh (q := 2) E rfl rfl rfl) ?_; clear E a; intro a E
  refine zp E (by first | exact zAo E rfl rfl rfl (S.get (by repeat (first | exact pk1 | apply zAc))) rfl | exact zAk E rfl rfl rfl (by assumption)) ?_; clear E a; intro a E
  refine zp E (by first | exact zCx E rfl rfl rfl | exact zBh E rfl rfl rfl rfl | exact zBq E rfl rfl rfl rfl | exact zBl E rfl rfl rfl) ?_; clear E a; intro a E
  refine wpList_nil ?_
  refine zAf hK ?_; clear hK; clear K
  refine zBg E rfl (fun hb => ?_) (fun hb => ?_)
  · replace hb := Nrm.nrm hb
    refine wp_seq_k ?_; intro K hK
    refine zAb ?_
    refine zp E (zAd E rfl rfl) ?_; clear E a; intro a E
    refine wpList_nil ?_
    refine zAf hK ?_; clear hK; clear K
    refine wp_ret ?_
    refine zAy ?_; clear hK; clear K
    refine ret1 E rfl rfl ?_
    have hv : s.text most = ([], s) := by simp [Rdr.text, show s.e ≠ 0 by omega]
    exact ⟨_, rfl, _, by rw [hv], by rw [hv]; exact ⟨hat, hlen, ad, c, C, rfl, hc, hR⟩, S.join.tr⟩
  · replace hb := Nrm.nrm hb
    refine wp_skip ?_
    refine zAf hK ?_; clear hK; clear K
    iterate 2 (refine wp_seq_k ?_; intro K hK)
    have he : s.e = 0 := by omega
    refine zBw S (.ofL [(0, 0), (1, 0), (2, 0), (3, 0), (4, 0), (5, 0), (6, 0), (7, 0), (8, 0), (9, 0), (10, 0)]) (by kernel_rfl) (by kernel_rfl) ?_
    clear S; intro w S
    refine zm E rfl (fun w h => zAe E rfl rfl) ?_; clear E a; intro a E
    refine zm E rfl (fun w h => zAz E rfl rfl) ?_; clear E a; intro a E
    refine zm E rfl (fun w h => by first | exact zAg (q := 0) E rfl rfl rfl | exact zAh (q := 0) E rfl rfl rfl) ?_; clear E a; intro a E
    refine zm E rfl (fun w h => by first | exact zAo E rfl rfl rfl (h.one (by repeat (first | exact mm1 | assumption | apply List.Mem.tail))) rfl | exact zAk E rfl rfl rfl (by assumption)) ?_; clear E a; intro a E
    refine zm E rfl (fun w h => by first | exact zBz E rfl rfl rfl | exact zBa E rfl rfl rfl | exact zAr E rfl rfl rfl) ?_; clear E a; intro a E
    refine zm E rfl (fun w h => zAe E rfl rfl) ?_; clear E a; intro a E
    refine zm E rfl (fun w h => zAz E rfl rfl) ?_; clear E a; intro a E
    refine zm E rfl (fun w h => by first | exact zAg (q := 1) E rfl rfl rfl | exact zAh (q := 1) E rfl rfl rfl) ?_; clear E a; intro a E
    refine zm E rfl (fun w h => by first | exact zAo E rfl rfl rfl (h.one (by repeat (first | exact mm1 | assumption | apply List.Mem.tail))) rfl | exact zAk E rfl rfl rfl (by assumption)) ?_; clear E a; intro a E
    refine zm E rfl (fun w h => zDp E rfl rfl rfl (by first | exact ws1 (by omega) (by omega) | exact w_in (by omega) | exact zBr (by omega) | exact rfl)) ?_; clear E a; intro a E
    refine zm E rfl (fun w h => zCj E rfl rfl rfl) ?_; clear E a; intro a E
    refine zBy ?_
    refine zAf hK ?_; clear hK; clear K
    refine zBg E rfl (fun hb => ?_) (fun hb => ?_)
    · replace hb := Nrm.nrm hb
      refine wp_seq_k ?_; intro K hK
      refine zAb ?_
      refine zp E (zAe E rfl rfl) ?_; clear E a; intro a E
      refine zp E (zAz E rfl rfl) ?_; clear E a; intro a E
      refine zp E (by first | exact zAg (q := 2) E rfl rfl rfl | exact zAh (q := 2) E rfl rfl rfl) ?_; clear E a; intro a E
      refine zAn rfl (zBk E S rfl rfl rfl rfl rfl rfl (by repeat (first | exact pk1 | apply zAc)) (by first | exact Nat.le_of_ble_eq_true rfl | (simp; done) | (simp; omega)) ?_); clear E S a; intro a w E S; try dsimp only [List.set] at S
      refine wpList_nil ?_
      refine zAf hK ?_; clear hK; clear K
      refine wp_seq_k ?_; intro K hK
      refine zAb ?_
      refine zp E (zAd E rfl rfl) ?_; clear E a; intro a E
      refine wpList_nil ?_
      refine zAf hK ?_; clear hK; clear K
      refine wp_ret ?_
      refine zAy ?_; clear hK; clear K
      refine ret1 E rfl rfl ?_
      have hv : s.text most = ([], { s with e := 10 }) := by simp [Rdr.text, he, show s.bs.length < s.at_ + 2 by omega]
      exact ⟨_, rfl, _, by rw [hv], by rw [hv]; exact ⟨hat, hlen, ad, c, C, rfl, hc, hR⟩, S.join.tr⟩
    · replace hb := Nrm.nrm hb
      refine wp_skip ?_
      refine zAf hK ?_; clear hK; clear K
      refine wp_seq_k ?_; intro K hK
      have hcl := s.cut_length 2 0 (by omega)
      have hnl := zFl (s.cut 2 0)
      rw [hcl] at hnl
      refine zBw S (.ofL [(0, 0), (1, 0), (2, 0), (3, 0), (4, 0), (5, 0), (6, 0), (7, 0), (8, 0), (9, 0), (10, 0), (11, 0), (12, 0), (13, 0), (14, 3), (15, 2), (16, 2)]) (by kernel_rfl) (by kernel_rfl) ?_
      clear S; intro w S
      refine zm E rfl (fun w h => zAe E rfl rfl) ?_; clear E a; intro a E
      refine zm E rfl (fun w h => zAz E rfl rfl) ?_; clear E a; intro a E
      refine zm E rfl (fun w h => by first | exact zAg (q := 0) E rfl rfl rfl | exact zAh (q := 0) E rfl rfl rfl) ?_; clear E a; intro a E
      refine zm E rfl (fun w h => by first | exact zAo E rfl rfl rfl (h.one (by repeat (first | exact mm1 | assumption | apply List.Mem.tail))) rfl | exact zAk E rfl rfl rfl (by assumption)) ?_; clear E a; intro a E
      refine zm E rfl (fun w h => zAe E rfl rfl) ?_; clear E a; intro a E
      refine zm E rfl (fun w h => zAz E rfl rfl) ?_; clear E a; intro a E
      refine zm E rfl (fun w h => by first | exact zAg (q := 1) E rfl rfl rfl | exact zAh (q := 1) E rfl rfl rfl) ?_; clear E a; intro a E
      refine zm E rfl (fun w h => by first | exact zAo E rfl rfl rfl (h.one (by repeat (first | exact mm1 | assumption | apply List.Mem.tail))) rfl | exact zAk E rfl rfl rfl (by assumption)) ?_; clear E a; intro a E
      refine zm E rfl (fun w h => zAe E rfl rfl) ?_; clear E a; intro a E
      refine zm E rfl (fun w h => zAz E rfl rfl) ?_; clear E a; intro a E
      refine zm E rfl (fun w h => by first | exact zAg (q := 1) E rfl rfl rfl | exact zAh (q := 1) E rfl rfl rfl) ?_; clear E a; intro a E
      refine zm E rfl (fun w h => by first | exact zAo E rfl rfl rfl (h.one (by repeat (first | exact mm1 | assumption | apply List.Mem.tail))) rfl | exact zAk E rfl rfl rfl (by assumption)) ?_; clear E a; intro a E
      refine zm E rfl (fun w h => zBs E rfl rfl rfl (by first | exact zCh (y := 2) (by omega) | exact w_in (by omega) | exact zBr (by omega) | exact rfl)) ?_; clear E a; intro a E
      refine zm E rfl (fun w h => zEd (s := 1) E rfl rfl rfl rfl rfl rfl rfl rfl (by omega) (by omega)) ?_; clear E a; intro a E
      obtain ⟨ad2, c2, hs2, hR2⟩ := hR.cut (lo := s.at_) (hi := s.at_ + 2) (by omega) (by omega) (by omega)
      rw [hs2] at E
      have hR2 : Rd C 1 (.slice ad2 (s.at_ + 2 - s.at_) c2) (s.cut 2 0).length (byt (s.cut 2 0)) := by { rw [hcl]; simpa [zFj, zGn, Rdr.cut, Nat.add_sub_cancel_left] using hR2 }
      refine zGf E rfl rfl rfl (by decide) rfl Tryz.func121 rfl (by kernel_rfl) rfl (zLg C _ (s.cut 2 0) _ hR2 (S.stab.at (by repeat (first | exact mm1 | assumption | apply List.Mem.tail))) (by omega)) ?_
      rintro v40 w ⟨rfl, rfl⟩; clear E a; intro a E
      refine zDa E rfl rfl rfl (by decide) (fun w => by first | exact zBb E rfl rfl rfl rfl (by first | exact wu8 _ | exact zDu (by omega) | exact zCy (by omega) | exact w_in (by omega) | exact zBr (by omega) | exact rfl) | exact zBx E rfl rfl rfl rfl rfl (by assumption) (S.stab.at (by simp))) ?_; clear E a; intro a E
      refine zDa E rfl rfl rfl (by decide) (fun w => zAd E rfl rfl) ?_; clear E a; intro a E
      refine zBy ?_
      refine zAf hK ?_; clear hK; clear K
      iterate 2 (refine wp_seq_k ?_; intro K hK)
      replace E := E.keep (e' := [(0, _), (1, _), (4, _), (5, _)]) (zAa rfl (zAa rfl (zAa rfl (zAa rfl (zAm)))))
      refine zAb ?_
      iterate 2 (refine zp E (zAe E rfl rfl) ?_; clear E a; intro a E)
      refine zp E (zDq E rfl rfl rfl) ?_; clear E a; intro a E
      refine wpList_nil ?_
      refine zAf hK ?_; clear hK; clear K
      refine zBg E rfl (fun hb => ?_) (fun hb => ?_)
      · replace hb := Nrm.nrm hb
        refine wp_seq_k ?_; intro K hK
        refine zAb ?_
        refine zp E (zAe E rfl rfl) ?_; clear E a; intro a E
        refine zp E (zAz E rfl rfl) ?_; clear E a; intro a E
        refine zp E (by first | exact zAg (q := 2) E rfl rfl rfl | exact zAh (q := 2) E rfl rfl rfl) ?_; clear E a; intro a E
        refine zAn rfl (zBk E S rfl rfl rfl rfl rfl rfl (by repeat (first | exact pk1 | apply zAc)) (by first | exact Nat.le_of_ble_eq_true rfl | (simp; done) | (simp; omega)) ?_); clear E S a; intro a w E S; try dsimp only [List.set] at S
        refine wpList_nil ?_
        refine zAf hK ?_; clear hK; clear K
        refine wp_seq_k ?_; intro K hK
        refine zAb ?_
        refine zp E (zAd E rfl rfl) ?_; clear E a; intro a E
        refine wpList_nil ?_
        refine zAf hK ?_; clear hK; clear K
        refine wp_ret ?_
        refine zAy ?_; clear hK; clear K
        refine ret1 E rfl rfl ?_
        have hv : s.text most = ([], { s with e := 11 }) := by simp [Rdr.text, he, show ¬ s.bs.length < s.at_ + 2 by omega, show most < (zCo (s.cut 2 0) : Int) by omega]
        exact ⟨_, rfl, _, by rw [hv], by rw [hv]; exact ⟨hat, hlen, ad, c, C, rfl, hc, hR⟩, S.join.tr⟩
      · replace hb := Nrm.nrm hb
        refine wp_skip ?_
        refine zAf hK ?_; clear hK; clear K
        iterate 2 (refine wp_seq_k ?_; intro K hK)
        refine zBw S (.ofL [(0, 0), (1, 0), (2, 0), (3, 0), (4, 0), (5, 0), (6, 0), (7, 0), (8, 0), (9, 0), (10, 0), (11, 0), (12, 0)]) (by kernel_rfl) (by kernel_rfl) ?_
        clear S; intro w S
        iterate 2 (refine zm E rfl (fun w h => zAe E rfl rfl) ?_; clear E a; intro a E)
        refine zm E rfl (fun w h => zAz E rfl rfl) ?_; clear E a; intro a E
        refine zm E rfl (fun w h => by first | exact zAg (q := 0) E rfl rfl rfl | exact zAh (q := 0) E rfl rfl rfl) ?_; clear E a; intro a E
        refine zm E rfl (fun w h => by first | exact zAo E rfl rfl rfl (h.one (by repeat (first | exact mm1 | assumption | apply List.Mem.tail))) rfl | exact zAk E rfl rfl rfl (by assumption)) ?_; clear E a; intro a E
        refine zm E rfl (fun w h => by first | exact zBz E rfl rfl rfl | exact zBa E rfl rfl rfl | exact zAr E rfl rfl rfl) ?_; clear E a; intro a E
        refine zm E rfl (fun w h => zAe E rfl rfl) ?_; clear E a; intro a E
        refine zm E rfl (fun w h => zAz E rfl rfl) ?_; clear E a; intro a E
        refine zm E rfl (fun w h => by first | exact zAg (q := 1) E rfl rfl rfl | exact zAh (q := 1) E rfl rfl rfl) ?_; clear E a; intro a E
        refine zm E rfl (fun w h => by first | exact zAo E rfl rfl rfl (h.one (by repeat (first | exact mm1 | assumption | apply List.Mem.tail))) rfl | exact zAk E rfl rfl rfl (by assumption)) ?_; clear E a; intro a E
        refine zm E rfl (fun w h => zDp E rfl rfl rfl (by first | exact ws1 (by omega) (by omega) | exact w_in (by omega) | exact zBr (by omega) | exact rfl)) ?_; clear E a; intro a E
        refine zm E rfl (fun w h => zDp E rfl rfl rfl (by first | exact zFs (y := 2) (by omega) (by omega) | exact w_in (by omega) | exact zBr (by omega) | exact rfl)) ?_; clear E a; intro a E
        refine zm E rfl (fun w h => zDq E rfl rfl rfl) ?_; clear E a; intro a E
        refine zBy ?_
        refine zAf hK ?_; clear hK; clear K
        refine zBg E rfl (fun hb => ?_) (fun hb => ?_)
        · replace hb := Nrm.nrm hb
          refine wp_seq_k ?_; intro K hK
          refine zAb ?_
          refine zp E (zAe E rfl rfl) ?_; clear E a; intro a E
          refine zp E (zAz E rfl rfl) ?_; clear E a; intro a E
          refine zp E (by first | exact zAg (q := 2) E rfl rfl rfl | exact zAh (q := 2) E rfl rfl rfl) ?_; clear E a; intro a E
          refine zAn rfl (zBk E S rfl rfl rfl rfl rfl rfl (by repeat (first | exact pk1 | apply zAc)) (by first | exact Nat.le_of_ble_eq_true rfl | (simp; done) | (simp; omega)) ?_); clear E S a; intro a w E S; try dsimp only [List.set] at S
          refine wpList_nil ?_
          refine zAf hK ?_; clear hK; clear K
          refine wp_seq_k ?_; intro K hK
          refine zAb ?_
          refine zp E (zAd E rfl rfl) ?_; clear E a; intro a E
          refine wpList_nil ?_
          refine zAf hK ?_; clear hK; clear K
          refine wp_ret ?_
          refine zAy ?_; clear hK; clear K
          refine ret1 E rfl rfl ?_
          have hv : s.text most = ([], { s with e := 10 }) := by simp [Rdr.text, he, show ¬ s.bs.length < s.at_ + 2 by omega, show ¬ most < (zCo (s.cut 2 0) : Int) by omega, show s.bs.length < s.at_ + 2 + zCo (s.cut 2 0) by omega]
          exact ⟨_, rfl, _, by rw [hv], by rw [hv]; exact ⟨hat, hlen, ad, c, C, rfl, hc, hR⟩, S.join.tr⟩
        · replace hb := Nrm.nrm hb
          refine wp_skip ?_
          refine zAf hK ?_; clear hK; clear K
          refine wp_seq_k ?_; intro K hK
          have hcl2 := s.cut_length (zCo (s.cut 2 0)) 2 (by omega)
          refine zBw S (.ofL [(0, 0), (1, 0), (2, 0), (3, 0), (4, 0), (5, 0), (6, 0), (7, 0), (8, 0), (9, 0), (10, 0), (11, 0), (12, 0), (13, 0), (14, 0), (15, 0), (16, 0), (17, 0), (18, 0)]) (by kernel_rfl) (by kernel_rfl) ?_
          clear S; intro w S
          refine zm E rfl (fun w h => zAe E rfl rfl) ?_; clear E a; intro a E
          refine zm E rfl (fun w h => zAz E rfl rfl) ?_; clear E a; intro a E
          refine zm E rfl (fun w h => by first | exact zAg (q := 0) E rfl rfl rfl | exact zAh (q := 0) E rfl rfl rfl) ?_; clear E a; intro a E
          refine zm E rfl (fun w h => by first | exact zAo E rfl rfl rfl (h.one (by repeat (first | exact mm1 | assumption | apply List.Mem.tail))) rfl | exact zAk E rfl rfl rfl (by assumption)) ?_; clear E a; intro a E
          refine zm E rfl (fun w h => zAe E rfl rfl) ?_; clear E a; intro a E
          refine zm E rfl (fun w h => zAz E rfl rfl) ?_; clear E a; intro a E
          refine zm E rfl (fun w h => by first | exact zAg (q := 1) E rfl rfl rfl | exact zAh (q := 1) E rfl rfl rfl) ?_; clear E a; intro a E
          refine zm E rfl (fun w h => by first | exact zAo E rfl rfl rfl (h.one (by repeat (first | exact mm1 | assumption | apply List.Mem.tail))) rfl | exact zAk E rfl rfl rfl (by assumption)) ?_; clear E a; intro a E
          refine zm E rfl (fun w h => zBs E rfl rfl rfl (by first | exact zCh (y := 2) (by omega) | exact w_in (by omega) | exact zBr (by omega) | exact rfl)) ?_; clear E a; intro a E
          refine zm E rfl (fun w h => zAe E rfl rfl) ?_; clear E a; intro a E
          refine zm E rfl (fun w h => zAz E rfl rfl) ?_; clear E a; intro a E
          refine zm E rfl (fun w h => by first | exact zAg (q := 1) E rfl rfl rfl | exact zAh (q := 1) E rfl rfl rfl) ?_; clear E a; intro a E
          refine zm E rfl (fun w h => by first | exact zAo E rfl rfl rfl (h.one (by repeat (first | exact mm1 | assumption | apply List.Mem.tail))) rfl | exact zAk E rfl rfl rfl (by assumption)) ?_; clear E a; intro a E
          refine zm E rfl (fun w h => zBs E rfl rfl rfl (by first | exact zCh (y := 2) (by omega) | exact w_in (by omega) | exact zBr (by omega) | exact rfl)) ?_; clear E a; intro a E
          refine zm E rfl (fun w h => zAe E rfl rfl) ?_; clear E a; intro a E
          refine zm E rfl (fun w h => zBs E rfl rfl rfl (by first | exact wa1 (by omega) | exact w_in (by omega) | exact zBr (by omega) | exact rfl)) ?_; clear E a; intro a E
          refine zm E rfl (fun w h => zEd (s := 1) E rfl rfl rfl rfl rfl rfl rfl rfl (by omega) (by omega)) ?_; clear E a; intro a E
          obtain ⟨ad3, c3, hs3, hR3⟩ := hR.cut (lo := s.at_ + 2) (hi := s.at_ + 2 + zCo (s.cut 2 0)) (by omega) (by omega) (by omega)
          rw [hs3] at E
          have hR3 : Rd C 1 (.slice ad3 (s.at_ + 2 + zCo (s.cut 2 0) - (s.at_ + 2)) c3) (s.cut (zCo (s.cut 2 0)) 2).length (byt (s.cut (zCo (s.cut 2 0)) 2)) := by { rw [hcl2]; generalize zCo (s.cut 2 0) = k at *; simpa [zFj, zGn, Rdr.cut, Nat.add_sub_cancel_left] using hR3 }
          refine zm E rfl (fun w h => zBx E rfl rfl rfl rfl rfl (bs := s.cut (zCo (s.cut 2 0)) 2) hR3 (h.at (by repeat (first | exact mm1 | assumption | apply List.Mem.tail)))) ?_; clear E a; intro a E
          refine zm E rfl (fun w h => zAd E rfl rfl) ?_; clear E a; intro a E
          refine zBy ?_
          refine zAf hK ?_; clear hK; clear K
          refine wp_seq_k ?_; intro K hK
          replace E := E.keep (e' := [(0, _), (4, _), (5, _), (6, _)]) (zAa rfl (zAa rfl (zAa rfl (zAa rfl (zAm)))))
          refine zAb ?_
          iterate 2 (refine zp E (zAe E rfl rfl) ?_; clear E a; intro a E)
          refine zp E (zAz E rfl rfl) ?_; clear E a; intro a E
          refine zp E (by first | exact zAg (q := 1) E rfl rfl rfl | exact zAh (q := 1) E rfl rfl rfl) ?_; clear E a; intro a E
          refine zp E (by first | exact zAo E rfl rfl rfl (S.get (by repeat (first | exact pk1 | apply zAc))) rfl | exact zAk E rfl rfl rfl (by assumption)) ?_; clear E a; intro a E
          refine zp E (zBs E rfl rfl rfl (by first | exact zCh (y := 2) (by omega) | exact w_in (by omega) | exact zBr (by omega) | exact rfl)) ?_; clear E a; intro a E
          refine zp E (zAe E rfl rfl) ?_; clear E a; intro a E
          refine zp E (zBs E rfl rfl rfl (by first | exact wa1 (by omega) | exact w_in (by omega) | exact zBr (by omega) | exact rfl)) ?_; clear E a; intro a E
          refine zp E (zAz E rfl rfl) ?_; clear E a; intro a E
          refine zp E (by first | exact zAg (q := 1) E rfl rfl rfl | exact zAh (q := 1) E rfl rfl rfl) ?_; clear E a; intro a E
          refine zAn rfl (zBk E S rfl rfl rfl rfl rfl rfl (by repeat (first | exact pk1 | apply zAc)) (by first | exact Nat.le_of_ble_eq_true rfl | (simp; done) | (simp; omega)) ?_); clear E S a; intro a w E S; try dsimp only [List.set] at S
          refine wpList_nil ?_
          refine zAf hK ?_; clear hK; clear K
          refine wp_seq_k ?_; intro K hK
          refine zAb ?_
          refine zp E (zAe E rfl rfl) ?_; clear E a; intro a E
          refine zp E (zAd E rfl rfl) ?_; clear E a; intro a E
          refine wpList_nil ?_
          refine zAf hK ?_; clear hK; clear K
          refine wp_ret ?_
          refine ret1 E rfl rfl ?_
          have hv : s.text most = (s.cut (zCo (s.cut 2 0)) 2, { s with at_ := s.at_ + (2 + zCo (s.cut 2 0)) }) := by simp [Rdr.text, he, show ¬ s.bs.length < s.at_ + 2 by omega, show ¬ most < (zCo (s.cut 2 0) : Int) by omega, show ¬ s.bs.length < s.at_ + 2 + zCo (s.cut 2 0) by omega]
          rw [Nat.add_assoc] at S
          exact ⟨_, rfl, _, by rw [hv], by rw [hv]; exact ⟨by simp only; omega, hlen, ad, c, C, rfl, hc, hR⟩, S.join.tr⟩
end Go.Proofs.YtbogecljkaimdaaGreatDoor
namespace Go.Proofs.YtbogecljkaimdaaGreatDoor
open Go.Sl
set_option maxRecDepth 10000
theorem zHj (z : Int) (h0 : 0 ≤ z) (h1 : z ≤ 255) {D : zAw} {v : Value} {b : List UInt8} (hD : Rd D 1 v b.length (byt b)) (hbl : b.length ≤ 140737488000000) (s : Fs) (hok : s.Ok) {As : List zAw} (mD : D ∈ As) (hG0 : Tab As 0 sha0.l) (hG1 : Tab As 1 shaK) (w0 : World) (H : Hp w0 As) :
    Ret Tryz.prog 18 #[.int .i64 z, v, s.agg] w0 fun u w' => ∃ v' C, u = .tuple #[v', (ownS z b s).agg] ∧ BB C v' (zDl z b s) ∧ Trs w0 w' As (C :: As) := by
  obtain ⟨k, rfl⟩ : ∃ k : Nat, z = k := ⟨z.toNat, by omega⟩
  exact usealed_ret k (by omega) hD hbl s hok mD hG0 hG1 w0 H
noncomputable def encR (r : Rec) (s : Fs) : Int × List UInt8 × Fs := if ckB r = true then (0, zDl r.kind (zFo r.kind r) s, ownS r.kind (zFo r.kind r) s) else (200, [], zGj)
def encQ (x : Int × List UInt8 × Fs) (As : List zAw) (w0 : World) (u : Value) (w' : World) : Prop := ∃ v D, u = .tuple #[v, x.2.2.agg, .int .i64 x.1] ∧ BB D v x.2.1 ∧ Trs w0 w' As (D :: As)
theorem encR_yes {r : Rec} (h : ckB r = true) (s : Fs) : encR r s = (0, zDl r.kind (zFo r.kind r) s, ownS r.kind (zFo r.kind r) s) := by rw [encR, if_pos h]
theorem encR_no {r : Rec} (h : ckB r = false) (s : Fs) : encR r s = (200, [], zGj) := by rw [encR, if_neg (by rw [h]; decide)]
theorem trs_addNil {w w' : World} {As Bs : List zAw} (h : Trs w w' As Bs) : Trs w w' As ([] :: Bs) := by simpa [Trs] using h
theorem encP_Q {r : Rec} {s : Fs} {As : List zAw} {w0 : World} {u : Value} {w' : World} (h : encP r s As w0 u w') : encQ (encR r s) As w0 u w' := by
  rcases h with ⟨h, rfl, hT⟩ | ⟨h, v, D, rfl, hB, hT⟩
  · rw [encR_no h]; exact ⟨_, [], rfl, Buf.nil _ _, trs_addNil hT⟩
  · rw [encR_yes h]; exact ⟨v, D, rfl, hB, hT⟩
end Go.Proofs.YtbogecljkaimdaaGreatDoor
