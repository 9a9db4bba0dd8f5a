/-
  Texts put together (5).
-/
import Derived.Test.YtbogecljkaimdaaGreatDoorZRecordBack4
namespace Go.Proofs.YtbogecljkaimdaaGreatDoor
open Go.Sl
set_option maxRecDepth 10000
theorem zHl (l : List UInt8) (hl : l.length ≤ 140737488355328) (As : List zAs) (w0 : World) (H : Hp w0 As) :
    Ret Tryz.prog 48 #[str l] w0 fun u w' => u = .bool (zGq l) ∧ Trs w0 w' As As := by
  have S := St.begin H
  refine zDh 49 Tryz.func48 rfl rfl (by decide) ?_; intro a E
  refine wp_seq_k ?_; intro K hK
  refine zAa ?_
  refine zp E (zAe E rfl rfl) ?_; clear E a; intro a E
  refine wpList_nil ?_
  refine zAf hK ?_; clear hK; clear K
  iterate 2 (refine wp_seq_k ?_; intro K hK)
  refine zAa ?_
  refine zp E (zAd E rfl rfl) ?_; clear E a; intro a E
  refine zp E (by first | exact zBv E rfl rfl rfl | exact zAx E rfl rfl rfl | exact zAp E rfl rfl rfl) ?_; clear E a; intro a E
  refine zp E (zAd E rfl rfl) ?_; clear E a; intro a E
  refine wpList_nil ?_
  refine zAf hK ?_; clear hK; clear K
  refine wp_block ?_
  refine wp_loop_ghost (fun (m : Nat) (a : Act) (w' : World) => ∃ i : Nat, m = l.length - i ∧ i ≤ l.length ∧ (∀ k, ∀ hk : k < l.length, k < i → okAt l k hk) ∧ St w0 As w' As ∧ Fr a 49 [(0, str l), (7, .int .i64 l.length), (8, .int .i64 i)]) (l.length) ?_ ?_
  · exact ⟨0, by omega, by omega, by intro k _ h; omega, S, E.keep (zAb rfl (zAb rfl (zAb rfl zAr)))⟩
  clear E; clear a; (try clear S); rintro m a w ⟨i, rfl, hi, hok, S, E⟩
  refine wp_seq_k ?_; intro K hK
  refine zAa ?_
  refine zp E (zCw E rfl rfl rfl) ?_; clear E a; intro a E
  refine wpList_nil ?_
  refine zAf hK ?_; clear hK; clear K
  refine wp_seq_k ?_; intro K hK
  refine zBj E rfl (fun hb => ?_) (fun hb => ?_)
  · replace hb := Nrm.nrm hb
    refine wp_skip ?_
    refine zAf hK ?_; clear hK; clear K
    refine wp_seq_k ?_; intro K hK
    refine wp_block ?_
    refine wp_seq_k ?_; intro K hK
    have hil : i < l.length := by omega
    refine zAa ?_
    refine zp E (zAd E rfl rfl) ?_; clear E a; intro a E
    refine zp E (zAe E rfl rfl) ?_; clear E a; intro a E
    refine wpList_nil ?_
    refine zAf hK ?_; clear hK; clear K
    refine wp_seq_k ?_; intro K hK
    refine zAa ?_
    iterate 2 (refine zp E (zAd E rfl rfl) ?_; clear E a; intro a E)
    refine zp E (zDy (l := l) (i := i) E rfl rfl rfl rfl rfl hil) ?_; clear E a; intro a E
    refine zp E (zAe E rfl rfl) ?_; clear E a; intro a E
    refine wpList_nil ?_
    refine zAf hK ?_; clear hK; clear K
    refine wp_seq_k ?_; intro K hK
    obtain ⟨c, hc⟩ : ∃ c, c = l[i] := ⟨_, rfl⟩
    rw [← hc] at E
    refine zJa (fun (a : Act) (w' : World) => ∃ z, (z = true ↔ letB c = true) ∧ St w0 As w' As ∧ Fr a 49 [(0, str l), (3, .int .i64 i), (4, .int .u8 c.toNat), (5, .bool z), (7, .int .i64 l.length), (8, .int .i64 i)]) ?_ ?_
    · skip
      refine zAa ?_
      refine zp E (zAd E rfl rfl) ?_; clear E a; intro a E
      refine zp E (zGt E rfl rfl rfl) ?_; clear E a; intro a E
      refine zp E (zAd E rfl rfl) ?_; clear E a; intro a E
      refine zAw E (t := 16) rfl (fun hb16 => ?_) (fun hb16 => ?_)
      · have hb16n := hb16; replace hb16n := Nrm.nrm hb16n
        refine zy E hb16 (zAd E rfl rfl) ?_; clear E a; intro a E
        refine zy E hb16 (zGb E rfl rfl rfl) ?_; clear E a; intro a E
        refine zp E (zAk E rfl rfl hb16 rfl) ?_; clear E a; intro a E
        refine zp E (zAd E rfl rfl) ?_; clear E a; intro a E
        refine zAw E (t := 20) rfl (fun hb20 => ?_) (fun hb20 => ?_)
        · have hb20n := hb20; replace hb20n := Nrm.nrm hb20n
          iterate 3 (refine zn E hb20 ?_; clear E a; intro a E)
          iterate 2 (refine zu E ?_; clear E a; intro a E)
          refine zn E hb20 ?_; clear E a; intro a E
          refine zp E (zAk E rfl rfl hb20 rfl) ?_; clear E a; intro a E
          refine zp E (zAe E rfl rfl) ?_; clear E a; intro a E
          refine wpList_nil ?_
          refine zCf ?_
          exact ⟨_, by rw [zHk]; first | (simp only [decide_eq_true_eq]; omega) | (simp; omega) | omega, S, E.keep (zAb rfl (zAb rfl (zAb rfl (zAb rfl (zAb rfl (zAb rfl zAr))))))⟩
        · have hb20n := hb20; replace hb20n := Nrm.nrm hb20n
          refine zy E hb20 (zAd E rfl rfl) ?_; clear E a; intro a E
          refine zy E hb20 (zGt E rfl rfl rfl) ?_; clear E a; intro a E
          refine zy E hb20 (zAd E rfl rfl) ?_; clear E a; intro a E
          refine zAw E (t := 23) rfl (fun hb23 => ?_) (fun hb23 => ?_)
          · have hb23n := hb23; replace hb23n := Nrm.nrm hb23n
            refine zy E hb23 (zAd E rfl rfl) ?_; clear E a; intro a E
            refine zy E hb23 (zGb E rfl rfl rfl) ?_; clear E a; intro a E
            refine zy E hb20 (zAk E rfl rfl hb23 rfl) ?_; clear E a; intro a E
            refine zp E (zAj E rfl rfl hb20 rfl) ?_; clear E a; intro a E
            refine zp E (zAe E rfl rfl) ?_; clear E a; intro a E
            refine wpList_nil ?_
            refine zCf ?_
            exact ⟨_, by rw [zHk]; first | (simp only [decide_eq_true_eq]; omega) | (simp; omega) | omega, S, E.keep (zAb rfl (zAb rfl (zAb rfl (zAb rfl (zAb rfl (zAb rfl zAr))))))⟩
          · have hb23n := hb23; replace hb23n := Nrm.nrm hb23n
            iterate 2 (refine zn E hb23 ?_; clear E a; intro a E)
            refine zy E hb20 (zAj E rfl rfl hb23 rfl) ?_; clear E a; intro a E
            refine zp E (zAj E rfl rfl hb20 rfl) ?_; clear E a; intro a E
            refine zp E (zAe E rfl rfl) ?_; clear E a; intro a E
            refine wpList_nil ?_
            refine zCf ?_
            exact ⟨_, by rw [zHk]; first | (simp only [decide_eq_true_eq]; omega) | (simp; omega) | omega, S, E.keep (zAb rfl (zAb rfl (zAb rfl (zAb rfl (zAb rfl (zAb rfl zAr))))))⟩
      · have hb16n := hb16; replace hb16n := Nrm.nrm hb16n
        iterate 2 (refine zn E hb16 ?_; clear E a; intro a E)
        refine zp E (zAj E rfl rfl hb16 rfl) ?_; clear E a; intro a E
        refine zp E (zAd E rfl rfl) ?_; clear E a; intro a E
        refine zy E rfl (zAd E rfl rfl) ?_; clear E a; intro a E
        refine zy E rfl (zGt E rfl rfl rfl) ?_; clear E a; intro a E
        refine zy E rfl (zAd E rfl rfl) ?_; clear E a; intro a E
        refine zAw E (t := 23) rfl (fun hb23 => ?_) (fun hb23 => ?_)
        · have hb23n := hb23; replace hb23n := Nrm.nrm hb23n
          refine zy E hb23 (zAd E rfl rfl) ?_; clear E a; intro a E
          refine zy E hb23 (zGb E rfl rfl rfl) ?_; clear E a; intro a E
          refine zy E rfl (zAk E rfl rfl hb23 rfl) ?_; clear E a; intro a E
          refine zp E (zAj E rfl rfl rfl rfl) ?_; clear E a; intro a E
          refine zp E (zAe E rfl rfl) ?_; clear E a; intro a E
          refine wpList_nil ?_
          refine zCf ?_
          exact ⟨_, by rw [zHk]; first | (simp only [decide_eq_true_eq]; omega) | (simp; omega) | omega, S, E.keep (zAb rfl (zAb rfl (zAb rfl (zAb rfl (zAb rfl (zAb rfl zAr))))))⟩
        · have hb23n := hb23; replace hb23n := Nrm.nrm hb23n
          iterate 2 (refine zn E hb23 ?_; clear E a; intro a E)
          refine zy E rfl (zAj E rfl rfl hb23 rfl) ?_; clear E a; intro a E
          refine zp E (zAj E rfl rfl rfl rfl) ?_; clear E a; intro a E
          refine zp E (zAe E rfl rfl) ?_; clear E a; intro a E
          refine wpList_nil ?_
          refine zCf ?_
          exact ⟨_, by rw [zHk]; first | (simp only [decide_eq_true_eq]; omega) | (simp; omega) | omega, S, E.keep (zAb rfl (zAb rfl (zAb rfl (zAb rfl (zAb rfl (zAb rfl zAr))))))⟩
    · clear E S a; intro a w J; obtain ⟨z, hz, S, E⟩ := J
      obtain rfl : z = letB c := (by rw [Bool.eq_iff_iff]; exact hz)
      refine zAf hK ?_; clear hK; clear K
      refine wp_seq_k ?_; intro K hK
      refine zAa ?_
      refine zp E (zAd E rfl rfl) ?_; clear E a; intro a E
      refine zp E (zDl E rfl rfl) ?_; clear E a; intro a E
      refine zp E (zAd E rfl rfl) ?_; clear E a; intro a E
      refine zAw E (t := 30) rfl (fun hb30 => ?_) (fun hb30 => ?_)
      · have hb30n := hb30; replace hb30n := Nrm.nrm hb30n
        refine zy E hb30 (zAd E rfl rfl) ?_; clear E a; intro a E
        refine zy E hb30 (by first | exact zCe E rfl rfl rfl | exact zAt E rfl rfl rfl rfl | exact zAz E rfl rfl rfl rfl | exact zAu E rfl rfl rfl) ?_; clear E a; intro a E
        refine zy E hb30 (zAd E rfl rfl) ?_; clear E a; intro a E
        refine zAw E (t := 33) rfl (fun hb33 => ?_) (fun hb33 => ?_)
        · have hb33n := hb33; replace hb33n := Nrm.nrm hb33n
          iterate 4 (refine zn E hb33 ?_; clear E a; intro a E)
          refine zy E hb30 (zAk E rfl rfl hb33 rfl) ?_; clear E a; intro a E
          refine zp E (zAk E rfl rfl hb30 rfl) ?_; clear E a; intro a E
          refine wpList_nil ?_
          refine zAf hK ?_; clear hK; clear K
          refine zBy E rfl rfl ?_
          refine wp_seq_k ?_; intro K hK
          refine zAa ?_
          refine zp E (zAe E rfl rfl) ?_; clear E a; intro a E
          refine wpList_nil ?_
          refine zAf hK ?_; clear hK; clear K
          refine wp_ret ?_
          refine zCi ?_
          refine zAv ?_; clear hK; clear K
          refine zAv ?_
          refine zCi ?_
          refine zAv ?_; clear hK; clear K
          refine ret1 E rfl rfl ?_
          exact ⟨_, rfl, by congr 1; exact (part_no hil (by rw [← hc]; simpa using hb30) (by rw [← hc]; first | exact .inl (by omega) | exact .inr (by simpa using hb))).symm, S.tr⟩
        · have hb33n := hb33; replace hb33n := Nrm.nrm hb33n
          refine zy E hb33 (zAd E rfl rfl) ?_; clear E a; intro a E
          refine zy E hb33 (zBi E rfl rfl rfl rfl (w32c _)) ?_; clear E a; intro a E
          refine zBu E rfl rfl rfl rfl hb33 ?_; refine zCm E rfl (by decide) rfl Tryz.func91 rfl (by kernel_rfl) rfl (crune_ret c _ _ S.hp) ?_
          rintro v36 w ⟨rfl, hT⟩; clear E a; intro a E
          have S := S.all hT
          refine zy E hb33 (zDl E rfl rfl) ?_; clear E a; intro a E
          refine zy E hb30 (zAj E rfl rfl hb33 rfl) ?_; clear E a; intro a E
          refine zp E (zAk E rfl rfl hb30 rfl) ?_; clear E a; intro a E
          refine wpList_nil ?_
          refine zAf hK ?_; clear hK; clear K
          refine zBj E rfl (fun hb => ?_) (fun hb => ?_)
          · replace hb := Nrm.nrm hb
            refine wp_seq_k ?_; intro K hK
            refine zAa ?_
            refine zp E (zAe E rfl rfl) ?_; clear E a; intro a E
            refine wpList_nil ?_
            refine zAf hK ?_; clear hK; clear K
            refine wp_ret ?_
            refine zCi ?_
            refine zAv ?_; clear hK; clear K
            refine zAv ?_
            refine zCi ?_
            refine zAv ?_; clear hK; clear K
            refine ret1 E rfl rfl ?_
            exact ⟨_, rfl, by congr 1; exact (part_no hil (by rw [← hc]; simpa using hb30) (by rw [← hc]; first | exact .inl (by omega) | exact .inr (by simpa using hb))).symm, S.tr⟩
          · replace hb := Nrm.nrm hb
            refine wp_skip ?_
            refine zBo ?_
            refine zAf hK ?_; clear hK; clear K
            refine zAa ?_
            refine zp E (zCc E rfl rfl rfl (by first | exact zCt (y := 1) (by omega) | exact w_in (by omega) | exact zCb (by omega) | exact rfl)) ?_; clear E a; intro a E
            refine zp E (zAd E rfl rfl) ?_; clear E a; intro a E
            refine wpList_nil ?_
            refine zBn ?_
            exact ⟨_, by omega, i + 1, rfl, by omega, ok_more hok hil (by show letB l[i] = true ∨ _; rw [← hc]; first | exact .inl (by simpa using hb30) | exact .inr ⟨by omega, by simpa using hb⟩), S, E.keep (zAb rfl (zAb rfl (zAb rfl zAr)))⟩
      · have hb30n := hb30; replace hb30n := Nrm.nrm hb30n
        iterate 3 (refine zn E hb30 ?_; clear E a; intro a E)
        iterate 4 (refine zu E ?_; clear E a; intro a E)
        refine zn E hb30 ?_; clear E a; intro a E
        refine zp E (zAj E rfl rfl hb30 rfl) ?_; clear E a; intro a E
        refine wpList_nil ?_
        refine zAf hK ?_; clear hK; clear K
        refine zCl E rfl rfl ?_
        refine wp_skip ?_
        refine zBo ?_
        refine zAf hK ?_; clear hK; clear K
        refine zAa ?_
        refine zp E (zCc E rfl rfl rfl (by first | exact zCt (y := 1) (by omega) | exact w_in (by omega) | exact zCb (by omega) | exact rfl)) ?_; clear E a; intro a E
        refine zp E (zAd E rfl rfl) ?_; clear E a; intro a E
        refine wpList_nil ?_
        refine zBn ?_
        exact ⟨_, by omega, i + 1, rfl, by omega, ok_more hok hil (by show letB l[i] = true ∨ _; rw [← hc]; first | exact .inl (by simpa using hb30) | exact .inr ⟨by omega, by simpa using hb⟩), S, E.keep (zAb rfl (zAb rfl (zAb rfl zAr)))⟩
  · replace hb := Nrm.nrm hb
    refine wp_exit ?_
    refine zBf ?_; clear hK; clear K
    refine zBf ?_
    refine zCr ?_
    refine zAf hK ?_; clear hK; clear K
    refine wp_seq_k ?_; intro K hK
    refine zAa ?_
    refine zp E (zAd E rfl rfl) ?_; clear E a; intro a E
    refine zp E (by first | exact zBv E rfl rfl rfl | exact zAx E rfl rfl rfl | exact zAp E rfl rfl rfl) ?_; clear E a; intro a E
    refine zp E (zGt E rfl rfl rfl) ?_; clear E a; intro a E
    refine zp E (zAd E rfl rfl) ?_; clear E a; intro a E
    refine zAw E (t := 44) rfl (fun hb44 => ?_) (fun hb44 => ?_)
    · have hb44n := hb44; replace hb44n := Nrm.nrm hb44n
      refine zy E hb44 (zAd E rfl rfl) ?_; clear E a; intro a E
      refine zy E hb44 (by first | exact zBv E rfl rfl rfl | exact zAx E rfl rfl rfl | exact zAp E rfl rfl rfl) ?_; clear E a; intro a E
      refine zy E hb44 (zGb E rfl rfl rfl) ?_; clear E a; intro a E
      refine zp E (zAk E rfl rfl hb44 rfl) ?_; clear E a; intro a E
      refine zp E (zAe E rfl rfl) ?_; clear E a; intro a E
      refine wpList_nil ?_
      refine zAf hK ?_; clear hK; clear K
      refine wp_ret ?_
      refine ret1 E rfl rfl ?_
      exact ⟨_, rfl, by congr 1; rw [Bool.eq_iff_iff, part_end (fun k hk => hok k hk (by omega))]; simp; omega, S.tr⟩
    · have hb44n := hb44; replace hb44n := Nrm.nrm hb44n
      iterate 3 (refine zn E hb44 ?_; clear E a; intro a E)
      refine zp E (zAj E rfl rfl hb44 rfl) ?_; clear E a; intro a E
      refine zp E (zAe E rfl rfl) ?_; clear E a; intro a E
      refine wpList_nil ?_
      refine zAf hK ?_; clear hK; clear K
      refine wp_ret ?_
      refine ret1 E rfl rfl ?_
      exact ⟨_, rfl, by congr 1; rw [Bool.eq_iff_iff, part_end (fun k hk => hok k hk (by omega))]; simp; omega, S.tr⟩
theorem scount_ret (l : List UInt8) (c : UInt8) (As : List zAs) (w0 : World) (H : Hp w0 As) :
    Ret Tryz.prog 139 #[str l, str [c]] w0 fun u w' => u = .int .i64 (l.count c : Nat) ∧ Trs w0 w' As As := by
  have S := St.begin H
  refine zCg 34 Tryz.func139 rfl rfl (by decide) ?_; intro a E
  refine wp_seq_k ?_; intro K hK
  refine zAa ?_
  refine zp E (zAe E rfl rfl) ?_; clear E a; intro a E
  refine wpList_nil ?_
  refine zAf hK ?_; clear hK; clear K
  iterate 2 (refine wp_seq_k ?_; intro K hK)
  refine zAa ?_
  refine zp E (zAd E rfl rfl) ?_; clear E a; intro a E
  refine zp E (by first | exact zBv E rfl rfl rfl | exact zAx E rfl rfl rfl | exact zAp E rfl rfl rfl) ?_; clear E a; intro a E
  refine zp E (by first | exact zCe E rfl rfl rfl | exact zAt E rfl rfl rfl rfl | exact zAz E rfl rfl rfl rfl | exact zAu E rfl rfl rfl) ?_; clear E a; intro a E
  refine wpList_nil ?_
  refine zAf hK ?_; clear hK; clear K
  refine zCl E rfl ((by rfl)) ?_
  refine wp_skip ?_
  refine zAf hK ?_; clear hK; clear K
  iterate 2 (refine wp_seq_k ?_; intro K hK)
  refine zAa ?_
  refine zp E (zAd E rfl rfl) ?_; clear E a; intro a E
  refine zp E (by first | exact zBv E rfl rfl rfl | exact zAx E rfl rfl rfl | exact zAp E rfl rfl rfl) ?_; clear E a; intro a E
  refine zp E (by first | exact zCe E rfl rfl rfl | exact zAt E rfl rfl rfl rfl | exact zAz E rfl rfl rfl rfl | exact zAu E rfl rfl rfl) ?_; clear E a; intro a E
  refine wpList_nil ?_
  refine zAf hK ?_; clear hK; clear K
  refine zBy E rfl ((by rfl)) ?_
  refine wp_seq_k ?_; intro K hK
  refine zAa ?_
  iterate 2 (refine zp E (zAd E rfl rfl) ?_; clear E a; intro a E)
  refine zp E (zDy (l := [c]) (i := 0) E rfl rfl rfl rfl rfl (Nat.le_of_ble_eq_true rfl)) ?_; clear E a; intro a E
  refine zAm rfl (zFs E (rn_cbyte (l := l) (c := c) E rfl Tryz.func144 (by kernel_rfl) (by kernel_rfl) (by kernel_rfl) (by kernel_rfl) rfl rfl) rfl (by decide) ?_); clear E a; intro a E
  refine zp E (zAe E rfl rfl) ?_; clear E a; intro a E
  refine wpList_nil ?_
  refine zAf hK ?_; clear hK; clear K
  refine wp_ret ?_
  refine zAv ?_; clear hK; clear K
  refine ret1 E rfl rfl ?_
  exact ⟨_, rfl, rfl, S.tr⟩
theorem strs_set (dn : List (List UInt8)) (n i : Nat) (p : List UInt8) (h : dn.length = i) (hi : i < n) :
    (dn.map str ++ List.replicate (n - i) (str [])).set i (str p) = (dn ++ [p]).map str ++ List.replicate (n - (i + 1)) (str []) := by
  subst h
  rw [List.set_append_right _ _ (by simp), show n - dn.length = (n - (dn.length + 1)) + 1 by omega, List.replicate_succ]
  simp
theorem slindex_ret (l : List UInt8) (c : UInt8) (As : List zAs) (w0 : World) (H : Hp w0 As) :
    Ret Tryz.prog 145 #[str l, str [c]] w0 fun u w' => u = .int .i64 (Lib.indexByte l c) ∧ Trs w0 w' As As := by
  have S := St.begin H
  refine zCg 143 Tryz.func145 rfl rfl (by decide) ?_; intro a E
  refine wp_seq_k ?_; intro K hK
  refine zAa ?_
  refine zp E (zAe E rfl rfl) ?_; clear E a; intro a E
  refine wpList_nil ?_
  refine zAf hK ?_; clear hK; clear K
  refine wp_seq_k ?_; intro K hK
  refine zAa ?_
  refine zp E (zAd E rfl rfl) ?_; clear E a; intro a E
  refine zp E (by first | exact zBv E rfl rfl rfl | exact zAx E rfl rfl rfl | exact zAp E rfl rfl rfl) ?_; clear E a; intro a E
  refine zp E (zAe E rfl rfl) ?_; clear E a; intro a E
  refine wpList_nil ?_
  refine zAf hK ?_; clear hK; clear K
  refine wp_seq_k ?_; intro K hK
  refine wp_block ?_
  refine wp_seq_k ?_; intro K hK
  refine zAa ?_
  refine zp E (zAd E rfl rfl) ?_; clear E a; intro a E
  refine zp E (by first | exact zCe E rfl rfl rfl | exact zAt E rfl rfl rfl rfl | exact zAz E rfl rfl rfl rfl | exact zAu E rfl rfl rfl) ?_; clear E a; intro a E
  refine zp E (zAd E rfl rfl) ?_; clear E a; intro a E
  refine zEf E (t := 19) rfl ((by rfl)) (fun hb19 => ?_)
  iterate 2 (refine zy E hb19 (zAd E rfl rfl) ?_; clear E a; intro a E)
  refine zy E hb19 (by first | exact zCe E rfl rfl rfl | exact zAt E rfl rfl rfl rfl | exact zAz E rfl rfl rfl rfl | exact zAu E rfl rfl rfl) ?_; clear E a; intro a E
  refine zp E (zAj E rfl rfl hb19 rfl) ?_; clear E a; intro a E
  refine zp E (zAe E rfl rfl) ?_; clear E a; intro a E
  refine wpList_nil ?_
  refine zAf hK ?_; clear hK; clear K
  refine zBj E rfl (fun hb => ?_) (fun hb => ?_)
  · replace hb := Nrm.nrm hb
    refine wp_seq_k ?_; intro K hK
    refine zAa ?_
    refine zp E (zAe E rfl rfl) ?_; clear E a; intro a E
    refine wpList_nil ?_
    refine zAf hK ?_; clear hK; clear K
    refine wp_ret ?_
    refine zCi ?_
    refine zAv ?_; clear hK; clear K
    refine ret1 E rfl rfl ?_
    exact ⟨_, rfl, by rw [← hb]; simp [Lib.indexByte], S.tr⟩
  · replace hb := Nrm.nrm hb
    refine wp_seq_k ?_; intro K hK
    refine zAa ?_
    refine zp E (zAd E rfl rfl) ?_; clear E a; intro a E
    refine zp E (by first | exact zCe E rfl rfl rfl | exact zAt E rfl rfl rfl rfl | exact zAz E rfl rfl rfl rfl | exact zAu E rfl rfl rfl) ?_; clear E a; intro a E
    refine zp E (zAe E rfl rfl) ?_; clear E a; intro a E
    refine wpList_nil ?_
    refine zAf hK ?_; clear hK; clear K
    refine zBy E rfl ((by rfl)) ?_
    refine wp_seq_k ?_; intro K hK
    refine zAa ?_
    iterate 2 (refine zp E (zAd E rfl rfl) ?_; clear E a; intro a E)
    refine zp E (zDy (l := [c]) (i := 0) E rfl rfl rfl rfl rfl (Nat.le_of_ble_eq_true rfl)) ?_; clear E a; intro a E
    refine zAn E rfl rfl (by decide) rfl Tryz.func131 rfl (by kernel_rfl) rfl (zJg l c _ _ S.hp) ?_
    rintro v30 w ⟨rfl, hT⟩; clear E a; intro a E
    have S := S.all hT
    refine zp E (zAe E rfl rfl) ?_; clear E a; intro a E
    refine wpList_nil ?_
    refine zAf hK ?_; clear hK; clear K
    refine wp_ret ?_
    refine zCi ?_
    refine zAv ?_; clear hK; clear K
    refine ret1 E rfl rfl ?_
    exact ⟨_, rfl, rfl, S.tr⟩
theorem sindex_ret (l : List UInt8) (c : UInt8) (As : List zAs) (w0 : World) (H : Hp w0 As) :
    Ret Tryz.prog 140 #[str l, str [c]] w0 fun u w' => u = .int .i64 (Lib.indexByte l c) ∧ Trs w0 w' As As := by
  have S := St.begin H
  refine zCg 8 Tryz.func140 rfl rfl (by decide) ?_; intro a E
  refine wp_seq_k ?_; intro K hK
  refine zAa ?_
  refine zp E (zAe E rfl rfl) ?_; clear E a; intro a E
  refine wpList_nil ?_
  refine zAf hK ?_; clear hK; clear K
  refine wp_seq_k ?_; intro K hK
  refine zAa ?_
  iterate 2 (refine zp E (zAd E rfl rfl) ?_; clear E a; intro a E)
  refine zAn E rfl rfl (by decide) rfl Tryz.func145 rfl (by kernel_rfl) rfl (slindex_ret l c _ _ S.hp) ?_
  rintro v7 w ⟨rfl, hT⟩; clear E a; intro a E
  have S := S.all hT
  refine zp E (zAe E rfl rfl) ?_; clear E a; intro a E
  refine wpList_nil ?_
  refine zAf hK ?_; clear hK; clear K
  refine wp_ret ?_
  refine ret1 E rfl rfl ?_
  exact ⟨_, rfl, rfl, S.tr⟩
theorem gensplit_ret (l : List UInt8) (hl : l.length ≤ 1100000) (As : List zAs) (w0 : World) (H : Hp w0 As) :
    Ret Tryz.prog 132 #[str l, str [47], .int .i64 0, .int .i64 (-1)] w0 fun u w' => ∃ g, u = .slice (some ⟨g, 0, none⟩) (zDc l).length (zDc l).length ∧ Trs w0 w' As ([(g, cel ((zDc l).map str) 9)] :: As) := by
  have S := St.begin H
  have hcl : l.count 47 ≤ l.length := List.count_le_length
  have hpl := zEz l
  obtain ⟨n, hn⟩ : ∃ n, n = l.count 47 + 1 := ⟨_, rfl⟩
  refine enter4 66 Tryz.func132 rfl rfl (by decide) ?_; intro a E
  refine wp_seq_k ?_; intro K hK
  refine zAa ?_
  refine zp E (zAe E rfl rfl) ?_; clear E a; intro a E
  refine wpList_nil ?_
  refine zAf hK ?_; clear hK; clear K
  iterate 2 (refine wp_seq_k ?_; intro K hK)
  refine zAa ?_
  refine zp E (zAd E rfl rfl) ?_; clear E a; intro a E
  refine zp E (by first | exact zCe E rfl rfl rfl | exact zAt E rfl rfl rfl rfl | exact zAz E rfl rfl rfl rfl | exact zAu E rfl rfl rfl) ?_; clear E a; intro a E
  refine wpList_nil ?_
  refine zAf hK ?_; clear hK; clear K
  refine zCl E rfl ((by rfl)) ?_
  refine wp_skip ?_
  refine zAf hK ?_; clear hK; clear K
  iterate 2 (refine wp_seq_k ?_; intro K hK)
  refine zAa ?_
  refine zp E (zAd E rfl rfl) ?_; clear E a; intro a E
  refine zp E (by first | exact zCe E rfl rfl rfl | exact zAt E rfl rfl rfl rfl | exact zAz E rfl rfl rfl rfl | exact zAu E rfl rfl rfl) ?_; clear E a; intro a E
  refine wpList_nil ?_
  refine zAf hK ?_; clear hK; clear K
  refine zCl E rfl ((by rfl)) ?_
  refine wp_skip ?_
  refine zAf hK ?_; clear hK; clear K
  iterate 2 (refine wp_seq_k ?_; intro K hK)
  refine zAa ?_
  refine zp E (zAd E rfl rfl) ?_; clear E a; intro a E
  refine zp E (zCw E rfl rfl rfl) ?_; clear E a; intro a E
  refine wpList_nil ?_
  refine zAf hK ?_; clear hK; clear K
  refine zBy E rfl ((by rfl)) ?_
  refine zAa ?_
  iterate 2 (refine zp E (zAd E rfl rfl) ?_; clear E a; intro a E)
  refine zAn E rfl rfl (by decide) rfl Tryz.func139 rfl (by kernel_rfl) rfl (scount_ret l 47 _ _ S.hp) ?_
  rintro v23 w ⟨rfl, hT⟩; clear E a; intro a E
  have S := S.all hT
  refine zp E (zCc E rfl rfl rfl (by first | exact zCt (y := 1) (by omega) | exact w_in (by omega) | exact zCb (by omega) | exact rfl)) ?_; clear E a; intro a E
  refine zp E (zAe E rfl rfl) ?_; clear E a; intro a E
  refine wpList_nil ?_
  refine zAf hK ?_; clear hK; clear K
  refine wp_seq_k ?_; intro K hK
  refine zAa ?_
  iterate 2 (refine zp E (zAd E rfl rfl) ?_; clear E a; intro a E)
  refine zp E (by first | exact zBv E rfl rfl rfl | exact zAx E rfl rfl rfl | exact zAp E rfl rfl rfl) ?_; clear E a; intro a E
  refine zp E (zCc E rfl rfl rfl (by first | exact zCt (y := 1) (by omega) | exact w_in (by omega) | exact zCb (by omega) | exact rfl)) ?_; clear E a; intro a E
  refine zp E (rn_min E rfl rfl rfl) ?_; clear E a; intro a E
  rw [show min (((l.count 47 + 1 : Nat) : Int)) (((l.length + 1 : Nat) : Int)) = (n : Int) by omega] at E
  refine zp E (zAe E rfl rfl) ?_; clear E a; intro a E
  refine wpList_nil ?_
  refine zAf hK ?_; clear hK; clear K
  refine wp_seq_k ?_; intro K hK
  refine zAa ?_
  refine zp E (zAd E rfl rfl) ?_; clear E a; intro a E
  refine zAm rfl (zKv (by' := 16) E S rfl rfl (by decide) rfl rfl rfl rfl rfl rfl rfl rfl rfl rfl rfl (show 16 * n ≤ _ by omega) (by simp only [maxLen]; omega) ?_); clear E S a; intro a w g31 E S
  refine zp E (zAe E rfl rfl) ?_; clear E a; intro a E
  refine wpList_nil ?_
  refine zAf hK ?_; clear hK; clear K
  refine wp_seq_k ?_; intro K hK
  replace E := E.keep (e' := [(0, _), (1, _), (2, _), (3, _), (8, _), (9, _)]) (zAb rfl (zAb rfl (zAb rfl (zAb rfl (zAb rfl (zAb rfl (zAr)))))))
  have h1n : 1 ≤ n := by omega
  refine zAa ?_
  refine zp E (zAd E rfl rfl) ?_; clear E a; intro a E
  refine zp E (zEw E rfl rfl rfl (by first | exact zIc (y := 1) (by omega) (by omega) | exact w_in (by omega) | exact zCb (by omega) | exact rfl)) ?_; clear E a; intro a E
  refine zp E (zAe E rfl rfl) ?_; clear E a; intro a E
  refine wpList_nil ?_
  refine zAf hK ?_; clear hK; clear K
  refine wp_seq_k ?_; intro K hK
  refine zAa ?_
  refine zp E (zAe E rfl rfl) ?_; clear E a; intro a E
  refine wpList_nil ?_
  refine zAf hK ?_; clear hK; clear K
  refine wp_seq_k ?_; intro K hK
  refine wp_block ?_
  refine wp_loop_ghost (fun (m : Nat) (a : Act) (w' : World) => ∃ (i : Nat) (cur : List UInt8) (dn : List (List UInt8)), m = n - i ∧ i + 1 ≤ n ∧ dn.length = i ∧ dn ++ zDc cur = zDc l ∧ cur.length ≤ l.length ∧ St w0 As w' ([(g31, cel (dn.map str ++ List.replicate (n - i) (str [])) 9)] :: As) ∧ Fr a 66 [(0, str cur), (1, str [47]), (2, .int .i64 0), (3, .int .i64 ((n - 1 : Nat) : Int)), (9, .slice (some ⟨g31, 0, none⟩) n n), (10, .int .i64 i)]) (n) ?_ ?_
  · exact ⟨0, l, [], by omega, by omega, rfl, rfl, by omega, S, E.keep (zAb rfl (zAb rfl (zAb rfl (zAb rfl (zAb rfl (zAb rfl zAr))))))⟩
  clear E; clear a; (try clear S); rintro m a w ⟨i, cur, dn, rfl, hi, hdn, hpc, hcur, S, E⟩
  iterate 2 (refine wp_seq_k ?_; intro K hK)
  refine zAa ?_
  iterate 2 (refine zp E (zAd E rfl rfl) ?_; clear E a; intro a E)
  refine zp E (zCw E rfl rfl rfl) ?_; clear E a; intro a E
  refine wpList_nil ?_
  refine zAf hK ?_; clear hK; clear K
  refine zBj E rfl (fun hb => ?_) (fun hb => ?_)
  · replace hb := Nrm.nrm hb
    refine wp_skip ?_
    refine zAf hK ?_; clear hK; clear K
    refine wp_block ?_
    refine wp_seq_k ?_; intro K hK
    refine zAa ?_
    iterate 2 (refine zp E (zAd E rfl rfl) ?_; clear E a; intro a E)
    refine zAn E rfl rfl (by decide) rfl Tryz.func140 rfl (by kernel_rfl) rfl (sindex_ret cur 47 _ _ S.hp) ?_
    rintro v39 w ⟨rfl, hT⟩; clear E a; intro a E
    have S := S.all hT
    refine zp E (zAe E rfl rfl) ?_; clear E a; intro a E
    refine wpList_nil ?_
    refine zAf hK ?_; clear hK; clear K
    iterate 2 (refine wp_seq_k ?_; intro K hK)
    have hin : i < n - 1 := by omega
    have hcc := zEz cur
    have hall : dn.length + (zDc cur).length = n := by rw [← List.length_append, hpc]; omega
    obtain ⟨mm, hm, he, hat, h0, h1⟩ := (ibyte_cases cur 47).resolve_left (fun q => by omega)
    rw [he] at E
    refine zAa ?_
    refine zp E (zAd E rfl rfl) ?_; clear E a; intro a E
    refine zp E (zCw E rfl rfl rfl) ?_; clear E a; intro a E
    refine wpList_nil ?_
    refine zAf hK ?_; clear hK; clear K
    refine zCl E rfl ((by simp)) ?_
    refine wp_skip ?_
    refine zAf hK ?_; clear hK; clear K
    refine wp_seq_k ?_; intro K hK
    refine zAa ?_
    iterate 5 (refine zp E (zAd E rfl rfl) ?_; clear E a; intro a E)
    refine zp E (zCc E rfl rfl rfl (by first | exact wa1 (by omega) | exact w_in (by omega) | exact zCb (by omega) | exact rfl)) ?_; clear E a; intro a E
    refine zp E (rn_str_h (l := cur) (hi := mm) E rfl rfl rfl rfl rfl (by omega)) ?_; clear E a; intro a E
    refine zp E (by first | exact zBp E rfl rfl rfl rfl rfl rfl (by omega) | exact zBs E rfl rfl rfl rfl rfl rfl (by omega) | exact zBe E rfl rfl rfl rfl rfl rfl (by omega)) ?_; clear E a; intro a E
    refine zAm rfl (zBk E S rfl rfl rfl rfl rfl rfl (by repeat (first | exact pk1 | apply zAc)) (by simp; omega) ?_); clear E S a; intro a w E S; try dsimp only [List.set] at S
    refine wpList_nil ?_
    refine zAf hK ?_; clear hK; clear K
    refine wp_seq_k ?_; intro K hK
    refine zAa ?_
    iterate 3 (refine zp E (zAd E rfl rfl) ?_; clear E a; intro a E)
    refine zp E (by first | exact zBv E rfl rfl rfl | exact zAx E rfl rfl rfl | exact zAp E rfl rfl rfl) ?_; clear E a; intro a E
    refine zp E (zCc E rfl rfl rfl (wa1 (by simp; omega))) ?_; clear E a; intro a E
    refine zp E (rn_str_l (l := cur) (lo := mm + 1) E rfl rfl rfl rfl rfl (by omega)) ?_; clear E a; intro a E
    refine zp E (zAe E rfl rfl) ?_; clear E a; intro a E
    refine wpList_nil ?_
    refine zAf hK ?_; clear hK; clear K
    refine zAa ?_
    refine zp E (zAd E rfl rfl) ?_; clear E a; intro a E
    refine zp E (zCc E rfl rfl rfl (by first | exact zCt (y := 1) (by omega) | exact w_in (by omega) | exact zCb (by omega) | exact rfl)) ?_; clear E a; intro a E
    refine zp E (zAe E rfl rfl) ?_; clear E a; intro a E
    refine wpList_nil ?_
    refine zBo ?_
    refine zBn ?_
    rw [Nat.zero_add] at S
    rw [strs_set dn n i _ hdn (by omega)] at S
    exact ⟨_, by omega, i + 1, cur.drop (mm + 1), dn ++ [cur.take mm], rfl, by omega, by simp [hdn], by rw [List.append_assoc, ← hpc, zKg hm hat h0]; rfl, by rw [List.length_drop]; omega, S, E.keep (zAb rfl (zAb rfl (zAb rfl (zAb rfl (zAb rfl (zAb rfl zAr))))))⟩
  · replace hb := Nrm.nrm hb
    refine wp_exit ?_
    refine zBf ?_; clear hK; clear K
    refine zBf ?_
    refine zCr ?_
    refine zAf hK ?_; clear hK; clear K
    refine wp_seq_k ?_; intro K hK
    have hin : n = i + 1 := by omega
    have hcc := zEz cur
    have hall : dn.length + (zDc cur).length = n := by rw [← List.length_append, hpc]; omega
    have h1 := pieces_none (l := cur) (by omega)
    refine zAa ?_
    iterate 3 (refine zp E (zAd E rfl rfl) ?_; clear E a; intro a E)
    refine zp E (by first | exact zBp E rfl rfl rfl rfl rfl rfl (by omega) | exact zBs E rfl rfl rfl rfl rfl rfl (by omega) | exact zBe E rfl rfl rfl rfl rfl rfl (by omega)) ?_; clear E a; intro a E
    refine zAm rfl (zBk E S rfl rfl rfl rfl rfl rfl (by repeat (first | exact pk1 | apply zAc)) (by simp; omega) ?_); clear E S a; intro a w E S; try dsimp only [List.set] at S
    refine wpList_nil ?_
    refine zAf hK ?_; clear hK; clear K
    refine wp_seq_k ?_; intro K hK
    refine zAa ?_
    iterate 2 (refine zp E (zAd E rfl rfl) ?_; clear E a; intro a E)
    refine zp E (zCc E rfl rfl rfl (by first | exact zCt (y := 1) (by omega) | exact w_in (by omega) | exact zCb (by omega) | exact rfl)) ?_; clear E a; intro a E
    refine zp E (zFq (s := 1) E rfl rfl rfl rfl rfl rfl (by omega)) ?_; clear E a; intro a E
    refine zp E (zAe E rfl rfl) ?_; clear E a; intro a E
    refine wpList_nil ?_
    refine zAf hK ?_; clear hK; clear K
    refine wp_ret ?_
    refine ret1 E rfl rfl ?_
    rw [Nat.zero_add] at S
    rw [strs_set dn n i _ hdn (by omega)] at S
    rw [show n - (i + 1) = 0 by omega, List.replicate_zero, List.append_nil] at S
    rw [h1] at hpc
    rw [← hpc]
    exact ⟨_, rfl, g31, by simp [hdn, hin, sliced, Addr.add_lit], S.tr⟩
theorem split_ret (l : List UInt8) (hl : l.length ≤ 1100000) (As : List zAs) (w0 : World) (H : Hp w0 As) :
    Ret Tryz.prog 126 #[str l, str [47]] w0 fun u w' => ∃ g, u = .slice (some ⟨g, 0, none⟩) (zDc l).length (zDc l).length ∧ Trs w0 w' As ([(g, cel ((zDc l).map str) 9)] :: As) := by
  have S := St.begin H
  refine zCg 8 Tryz.func126 rfl rfl (by decide) ?_; intro a E
  refine wp_seq_k ?_; intro K hK
  refine zAa ?_
  refine zp E (zAe E rfl rfl) ?_; clear E a; intro a E
  refine wpList_nil ?_
  refine zAf hK ?_; clear hK; clear K
  refine wp_seq_k ?_; intro K hK
  refine zAa ?_
  iterate 2 (refine zp E (zAd E rfl rfl) ?_; clear E a; intro a E)
  refine zAn E rfl rfl (by decide) rfl Tryz.func132 rfl (by kernel_rfl) rfl (gensplit_ret l hl _ _ S.hp) ?_
  rintro v7 w ⟨g, rfl, hT⟩; clear E a; intro a E
  have S := S.all hT
  refine zp E (zAe E rfl rfl) ?_; clear E a; intro a E
  refine wpList_nil ?_
  refine zAf hK ?_; clear hK; clear K
  refine wp_ret ?_
  refine ret1 E rfl rfl ?_
  exact ⟨_, rfl, g, rfl, S.tr⟩
end Go.Proofs.YtbogecljkaimdaaGreatDoor
namespace Go.Sl
theorem valP_more {l : List UInt8} {i : Nat} (h : ∀ k, ∀ hk : k < l.length, k < i → 32 ≤ l[k].toNat ∧ l[k].toNat ≤ 126) (hi : i < l.length) (h1 : 32 ≤ l[i].toNat ∧ l[i].toNat ≤ 126) : ∀ k, ∀ hk : k < l.length, k < i + 1 → 32 ≤ l[k].toNat ∧ l[k].toNat ≤ 126 := by
  intro k hk hki
  by_cases e : k = i
  · subst e; exact h1
  · exact h k hk (by omega)
theorem blk_str {b : Nat} {ps : List (List UInt8)} {T : TypeId} {w : World} (hb : w.heap[b]? = some (cel (ps.map str) T)) {i : Nat} (h : i < ps.length) : w.cell? ⟨b, i, none⟩ = some (str ps[i]) :=
  zDp hb (by simp [h])
end Go.Sl
namespace Go.Proofs.YtbogecljkaimdaaGreatDoor
open Go.Sl
set_option maxRecDepth 10000
theorem vsign_ret (c : Nat) (As : List zAs) (w0 : World) (H : Hp w0 As) :
    Ret Tryz.prog 135 #[.int .i32 c] w0 fun u w' => ∃ z, u = .bool z ∧ (z = true ↔ c < 32 ∨ 126 < c) ∧ Trs w0 w' As As := by
  have S := St.begin H
  refine zDh 9 Tryz.func135 rfl rfl (by decide) ?_; intro a E
  refine wp_seq_k ?_; intro K hK
  refine zAa ?_
  refine zp E (zAe E rfl rfl) ?_; clear E a; intro a E
  refine wpList_nil ?_
  refine zAf hK ?_; clear hK; clear K
  refine wp_seq_k ?_; intro K hK
  refine zAa ?_
  refine zp E (zAd E rfl rfl) ?_; clear E a; intro a E
  refine zp E (zCw E rfl rfl rfl) ?_; clear E a; intro a E
  refine zp E (zAd E rfl rfl) ?_; clear E a; intro a E
  refine zAw E (t := 5) rfl (fun hb5 => ?_) (fun hb5 => ?_)
  · have hb5n := hb5; replace hb5n := Nrm.nrm hb5n
    iterate 2 (refine zn E hb5 ?_; clear E a; intro a E)
    refine zp E (zAk E rfl rfl hb5 rfl) ?_; clear E a; intro a E
    refine zp E (zAe E rfl rfl) ?_; clear E a; intro a E
    refine wpList_nil ?_
    refine zAf hK ?_; clear hK; clear K
    refine wp_ret ?_
    refine ret1 E rfl rfl ?_
    exact ⟨_, rfl, _, rfl, by first | (simp only [decide_eq_true_eq]; omega) | (simp; omega), S.tr⟩
  · have hb5n := hb5; replace hb5n := Nrm.nrm hb5n
    refine zy E hb5 (zAd E rfl rfl) ?_; clear E a; intro a E
    refine zy E hb5 (zEi E rfl rfl rfl) ?_; clear E a; intro a E
    refine zp E (zAj E rfl rfl hb5 rfl) ?_; clear E a; intro a E
    refine zp E (zAe E rfl rfl) ?_; clear E a; intro a E
    refine wpList_nil ?_
    refine zAf hK ?_; clear hK; clear K
    refine wp_ret ?_
    refine ret1 E rfl rfl ?_
    exact ⟨_, rfl, _, rfl, by first | (simp only [decide_eq_true_eq]; omega) | (simp; omega), S.tr⟩
theorem ifunc_ret (l : List UInt8) (hl : l.length ≤ 140737488355328) (As : List zAs) (w0 : World) (H : Hp w0 As) :
    Ret Tryz.prog 146 #[str l, .func (.func 135) #[] #[], .bool true] w0 fun u w' => ∃ i : Int, u = .int .i64 i ∧ (0 ≤ i ↔ ¬ valP l) ∧ Trs w0 w' As As := by
  have S := St.begin H
  refine zGs 21 Tryz.func146 rfl rfl (by decide) ?_; intro a E
  refine wp_seq_k ?_; intro K hK
  refine zAa ?_
  refine zp E (zAe E rfl rfl) ?_; clear E a; intro a E
  refine wpList_nil ?_
  refine zAf hK ?_; clear hK; clear K
  iterate 2 (refine wp_seq_k ?_; intro K hK)
  refine zAa ?_
  refine zp E (zAd E rfl rfl) ?_; clear E a; intro a E
  refine zAm rfl (wp_rangeS E S rfl rfl (by decide) rfl rfl ?_); clear E S a; intro a w b10 E S
  refine wpList_nil ?_
  refine zAf hK ?_; clear hK; clear K
  refine wp_block ?_
  refine wp_loop_ghost (fun (m : Nat) (a : Act) (w' : World) => ∃ i : Nat, m = l.length - i ∧ i ≤ l.length ∧ (∀ k, ∀ hk : k < l.length, k < i → 32 ≤ l[k].toNat ∧ l[k].toNat ≤ 126) ∧ St w0 As w' ([(b10, .stringIter ⟨l.toArray⟩ i)] :: As) ∧ Fr a 21 [(0, str l), (1, .func (.func 135) #[] #[]), (2, .bool true), (10, ptr b10)]) (l.length) ?_ ?_
  · exact ⟨0, by omega, by omega, by intro k _ h; omega, S, E.keep (zAb rfl (zAb rfl (zAb rfl (zAb rfl zAr))))⟩
  clear E; clear a; (try clear S); rintro m a w ⟨i, rfl, hi, hok, S, E⟩
  refine wp_seq_k ?_; intro K hK
  refine zAa ?_
  rcases Nat.lt_or_ge i l.length with hil | hil
  · skip
    obtain ⟨rr, wd, hdec⟩ : ∃ rr wd, Utf8.decode ⟨l.toArray⟩ i = (rr, wd) := ⟨_, _, rfl⟩
    refine zAm rfl (wp_nextS E S rfl rfl (by decide) rfl (by repeat (first | exact pk1 | apply zAc)) (by omega) ?_); clear E S a; intro a w E S
    rw [hdec] at E S; dsimp only at E S
    refine zp E (zBh E rfl rfl rfl) ?_; clear E a; intro a E
    refine wpList_nil ?_
    refine zAf hK ?_; clear hK; clear K
    refine wp_seq_k ?_; intro K hK
    refine zBy E rfl ((by rfl)) ?_
    refine wp_skip ?_
    refine zAf hK ?_; clear hK; clear K
    refine wp_block ?_
    refine wp_seq_k ?_; intro K hK
    refine zAa ?_
    iterate 2 (refine zp E (zBh E rfl rfl rfl) ?_; clear E a; intro a E)
    iterate 2 (refine zp E (zAe E rfl rfl) ?_; clear E a; intro a E)
    refine wpList_nil ?_
    refine zAf hK ?_; clear hK; clear K
    refine wp_seq_k ?_; intro K hK
    refine zAa ?_
    iterate 2 (refine zp E (zAd E rfl rfl) ?_; clear E a; intro a E)
    refine zCp E rfl rfl (by decide) rfl rfl Tryz.func135 rfl (by kernel_rfl) rfl (vsign_ret rr _ _ S.hp) ?_
    rintro v17 w ⟨z, rfl, hz, hT⟩; clear E a; intro a E
    have S := S.all hT
    refine zp E (zAd E rfl rfl) ?_; clear E a; intro a E
    refine zp E (by first | exact zCe E rfl rfl rfl | exact zAt E rfl rfl rfl rfl | exact zAz E rfl rfl rfl rfl | exact zAu E rfl rfl rfl) ?_; clear E a; intro a E
    refine wpList_nil ?_
    refine zAf hK ?_; clear hK; clear K
    refine zBj E rfl (fun hb => ?_) (fun hb => ?_)
    · replace hb := Nrm.nrm hb
      refine wp_seq_k ?_; intro K hK
      refine zAa ?_
      refine zp E (zAd E rfl rfl) ?_; clear E a; intro a E
      refine zp E (zAe E rfl rfl) ?_; clear E a; intro a E
      refine wpList_nil ?_
      refine zAf hK ?_; clear hK; clear K
      refine wp_ret ?_
      refine zCi ?_
      refine zAv ?_
      refine zCi ?_
      refine zAv ?_; clear hK; clear K
      refine ret1 E rfl rfl ?_
      exact ⟨_, rfl, _, rfl, by
        refine ⟨fun _ hv => ?_, fun _ => by omega⟩
        have hv := hv i hil
        have h1 := zIf hil (by omega)
        rw [hdec] at h1
        have h2 := hz.1 (by simpa using hb)
        cases h1
        omega, S.tail.tr⟩
    · replace hb := Nrm.nrm hb
      refine wp_skip ?_
      refine zBo ?_
      refine zBn ?_
      have hz2 : ¬ (rr < 32 ∨ 126 < rr) := fun q => by have := hz.2 q; simp [this] at hb
      have hs : l[i].toNat < 128 := by
        refine Nat.lt_of_not_le fun q => ?_
        have := decode_big hil q
        rw [hdec] at this
        simp only at this
        omega
      have h1 := zIf hil hs
      rw [hdec] at h1
      cases h1
      exact ⟨_, by omega, i + 1, rfl, by omega, valP_more hok hil (by omega), S, E.keep (zAb rfl (zAb rfl (zAb rfl (zAb rfl zAr))))⟩
  · skip
    refine zAm rfl (wp_nextS_end E S rfl rfl (by decide) rfl (by repeat (first | exact pk1 | apply zAc)) (by omega) ?_); clear E a; intro a E
    refine zp E (zBh E rfl rfl rfl) ?_; clear E a; intro a E
    refine wpList_nil ?_
    refine zAf hK ?_; clear hK; clear K
    refine wp_seq_k ?_; intro K hK
    refine zCl E rfl ((by rfl)) ?_
    refine wp_exit ?_
    refine zBf ?_; clear hK; clear K
    refine zBf ?_
    refine zCr ?_
    refine zAf hK ?_; clear hK; clear K
    refine wp_seq_k ?_; intro K hK
    refine zAa ?_
    refine zp E (zAe E rfl rfl) ?_; clear E a; intro a E
    refine wpList_nil ?_
    refine zAf hK ?_; clear hK; clear K
    refine wp_ret ?_
    refine ret1 E rfl rfl ?_
    exact ⟨_, rfl, _, rfl, ⟨fun h => by omega, fun h => absurd (fun k hk => hok k hk (by omega)) h⟩, S.tail.tr⟩
theorem ifunc2_ret (l : List UInt8) (hl : l.length ≤ 140737488355328) (As : List zAs) (w0 : World) (H : Hp w0 As) :
    Ret Tryz.prog 141 #[str l, .func (.func 135) #[] #[]] w0 fun u w' => ∃ i : Int, u = .int .i64 i ∧ (0 ≤ i ↔ ¬ valP l) ∧ Trs w0 w' As As := by
  have S := St.begin H
  refine zCg 8 Tryz.func141 rfl rfl (by decide) ?_; intro a E
  refine wp_seq_k ?_; intro K hK
  refine zAa ?_
  refine zp E (zAe E rfl rfl) ?_; clear E a; intro a E
  refine wpList_nil ?_
  refine zAf hK ?_; clear hK; clear K
  refine wp_seq_k ?_; intro K hK
  refine zAa ?_
  iterate 2 (refine zp E (zAd E rfl rfl) ?_; clear E a; intro a E)
  refine zAn E rfl rfl (by decide) rfl Tryz.func146 rfl (by kernel_rfl) rfl (ifunc_ret l hl _ _ S.hp) ?_
  rintro v7 w ⟨i, rfl, hi, hT⟩; clear E a; intro a E
  have S := S.all hT
  refine zp E (zAe E rfl rfl) ?_; clear E a; intro a E
  refine wpList_nil ?_
  refine zAf hK ?_; clear hK; clear K
  refine wp_ret ?_
  refine ret1 E rfl rfl ?_
  exact ⟨_, rfl, i, rfl, hi, S.tr⟩
theorem cfunc_ret (l : List UInt8) (hl : l.length ≤ 140737488355328) (As : List zAs) (w0 : World) (H : Hp w0 As) :
    Ret Tryz.prog 134 #[str l, .func (.func 135) #[] #[]] w0 fun u w' => u = .bool (!valB l) ∧ Trs w0 w' As As := by
  have S := St.begin H
  refine zCg 9 Tryz.func134 rfl rfl (by decide) ?_; intro a E
  refine wp_seq_k ?_; intro K hK
  refine zAa ?_
  refine zp E (zAe E rfl rfl) ?_; clear E a; intro a E
  refine wpList_nil ?_
  refine zAf hK ?_; clear hK; clear K
  refine wp_seq_k ?_; intro K hK
  refine zAa ?_
  iterate 2 (refine zp E (zAd E rfl rfl) ?_; clear E a; intro a E)
  refine zAn E rfl rfl (by decide) rfl Tryz.func141 rfl (by kernel_rfl) rfl (ifunc2_ret l hl _ _ S.hp) ?_
  rintro v7 w ⟨i, rfl, hi, hT⟩; clear E a; intro a E
  have S := S.all hT
  refine zp E (zGt E rfl rfl rfl) ?_; clear E a; intro a E
  refine zp E (zAe E rfl rfl) ?_; clear E a; intro a E
  refine wpList_nil ?_
  refine zAf hK ?_; clear hK; clear K
  refine wp_ret ?_
  refine ret1 E rfl rfl ?_
  exact ⟨_, rfl, by congr 1; rw [Bool.eq_iff_iff, decide_eq_true_eq, hi]; simp [valB], S.tr⟩
theorem cvalue_ret (l : List UInt8) (hl : l.length ≤ 140737488355328) (As : List zAs) (w0 : World) (H : Hp w0 As) :
    Ret Tryz.prog 129 #[str l] w0 fun u w' => u = .bool (valB l) ∧ Trs w0 w' As As := by
  have S := St.begin H
  refine zDh 6 Tryz.func129 rfl rfl (by decide) ?_; intro a E
  refine wp_seq_k ?_; intro K hK
  refine zAa ?_
  refine zp E (zAe E rfl rfl) ?_; clear E a; intro a E
  refine wpList_nil ?_
  refine zAf hK ?_; clear hK; clear K
  refine wp_seq_k ?_; intro K hK
  refine zAa ?_
  refine zp E (zAd E rfl rfl) ?_; clear E a; intro a E
  refine zAn E rfl rfl (by decide) rfl Tryz.func134 rfl (by kernel_rfl) rfl (cfunc_ret l hl _ _ S.hp) ?_
  rintro v4 w ⟨rfl, hT⟩; clear E a; intro a E
  have S := S.all hT
  refine zp E (zDl E rfl rfl) ?_; clear E a; intro a E
  refine zp E (zAe E rfl rfl) ?_; clear E a; intro a E
  refine wpList_nil ?_
  refine zAf hK ?_; clear hK; clear K
  refine wp_ret ?_
  refine ret1 E rfl rfl ?_
  exact ⟨_, rfl, by simp, S.tr⟩
theorem nsign_ret (l : List UInt8) (hl : l.length ≤ 140737488355328) (As : List zAs) (w0 : World) (H : Hp w0 As) :
    Ret Tryz.prog 128 #[str l] w0 fun u w' => u = .bool (!zGq l) ∧ Trs w0 w' As As := by
  have S := St.begin H
  refine zDh 6 Tryz.func128 rfl rfl (by decide) ?_; intro a E
  refine wp_seq_k ?_; intro K hK
  refine zAa ?_
  refine zp E (zAe E rfl rfl) ?_; clear E a; intro a E
  refine wpList_nil ?_
  refine zAf hK ?_; clear hK; clear K
  refine wp_seq_k ?_; intro K hK
  refine zAa ?_
  refine zp E (zAd E rfl rfl) ?_; clear E a; intro a E
  refine zAn E rfl rfl (by decide) rfl Tryz.func48 rfl (by kernel_rfl) rfl (zHl l hl _ _ S.hp) ?_
  rintro v4 w ⟨rfl, hT⟩; clear E a; intro a E
  have S := S.all hT
  refine zp E (zDl E rfl rfl) ?_; clear E a; intro a E
  refine zp E (zAe E rfl rfl) ?_; clear E a; intro a E
  refine wpList_nil ?_
  refine zAf hK ?_; clear hK; clear K
  refine wp_ret ?_
  refine ret1 E rfl rfl ?_
  exact ⟨_, rfl, rfl, S.tr⟩
theorem sifunc_ret (ps : List (List UInt8)) (hl : ps.length ≤ 140737488355328) (hs : ∀ p ∈ ps, p.length ≤ 140737488355328) (g : Nat) (As : List zAs) (hG : [(g, cel (ps.map str) 9)] ∈ As) (w0 : World) (H : Hp w0 As) :
    Ret Tryz.prog 133 #[.slice (some ⟨g, 0, none⟩) ps.length ps.length, .func (.func 128) #[] #[]] w0 fun u w' => ∃ i : Int, u = .int .i64 i ∧ (0 ≤ i ↔ ∃ p ∈ ps, zGq p = false) ∧ Trs w0 w' As As := by
  have S := St.begin H
  refine zCg 19 Tryz.func133 rfl rfl (by decide) ?_; intro a E
  refine wp_seq_k ?_; intro K hK
  refine zAa ?_
  refine zp E (zAe E rfl rfl) ?_; clear E a; intro a E
  refine wpList_nil ?_
  refine zAf hK ?_; clear hK; clear K
  iterate 2 (refine wp_seq_k ?_; intro K hK)
  refine zAa ?_
  refine zp E (zAd E rfl rfl) ?_; clear E a; intro a E
  refine zp E (by first | exact zBv E rfl rfl rfl | exact zAx E rfl rfl rfl | exact zAp E rfl rfl rfl) ?_; clear E a; intro a E
  refine zp E (zAd E rfl rfl) ?_; clear E a; intro a E
  refine wpList_nil ?_
  refine zAf hK ?_; clear hK; clear K
  refine wp_block ?_
  refine wp_loop_ghost (fun (m : Nat) (a : Act) (w' : World) => ∃ i : Nat, m = ps.length - i ∧ i ≤ ps.length ∧ (∀ k, ∀ hk : k < ps.length, k < i → zGq ps[k] = true) ∧ St w0 As w' As ∧ Fr a 19 [(0, .slice (some ⟨g, 0, none⟩) ps.length ps.length), (1, .func (.func 128) #[] #[]), (7, .int .i64 ps.length), (8, .int .i64 i)]) (ps.length) ?_ ?_
  · exact ⟨0, by omega, by omega, by intro k _ h; omega, S, E.keep (zAb rfl (zAb rfl (zAb rfl (zAb rfl zAr))))⟩
  clear E; clear a; (try clear S); rintro m a w ⟨i, rfl, hi, hok, S, E⟩
  refine wp_seq_k ?_; intro K hK
  refine zAa ?_
  refine zp E (zCw E rfl rfl rfl) ?_; clear E a; intro a E
  refine wpList_nil ?_
  refine zAf hK ?_; clear hK; clear K
  refine wp_seq_k ?_; intro K hK
  refine zBj E rfl (fun hb => ?_) (fun hb => ?_)
  · replace hb := Nrm.nrm hb
    refine wp_skip ?_
    refine zAf hK ?_; clear hK; clear K
    refine wp_seq_k ?_; intro K hK
    refine wp_block ?_
    refine wp_seq_k ?_; intro K hK
    have hil : i < ps.length := by omega
    refine zAa ?_
    refine zp E (zAd E rfl rfl) ?_; clear E a; intro a E
    refine zp E (zAe E rfl rfl) ?_; clear E a; intro a E
    refine wpList_nil ?_
    refine zAf hK ?_; clear hK; clear K
    refine wp_seq_k ?_; intro K hK
    refine zAa ?_
    iterate 3 (refine zp E (zAd E rfl rfl) ?_; clear E a; intro a E)
    refine zp E (by first | exact zBp E rfl rfl rfl rfl rfl rfl (by omega) | exact zBs E rfl rfl rfl rfl rfl rfl (by omega) | exact zBe E rfl rfl rfl rfl rfl rfl (by omega)) ?_; clear E a; intro a E
    refine zp E (zAl E rfl rfl rfl (by rw [Nat.zero_add]; exact blk_str (S.stab.one hG) hil)) ?_; clear E a; intro a E
    refine zCp E rfl rfl (by decide) rfl rfl Tryz.func128 rfl (by kernel_rfl) rfl (nsign_ret ps[i] (hs _ (List.getElem_mem hil)) _ _ S.hp) ?_
    rintro v16 w ⟨rfl, hT⟩; clear E a; intro a E
    have S := S.all hT
    refine wpList_nil ?_
    refine zAf hK ?_; clear hK; clear K
    refine zBj E rfl (fun hb => ?_) (fun hb => ?_)
    · replace hb := Nrm.nrm hb
      refine wp_seq_k ?_; intro K hK
      refine zAa ?_
      refine zp E (zAd E rfl rfl) ?_; clear E a; intro a E
      refine zp E (zAe E rfl rfl) ?_; clear E a; intro a E
      refine wpList_nil ?_
      refine zAf hK ?_; clear hK; clear K
      refine wp_ret ?_
      refine zCi ?_
      refine zAv ?_; clear hK; clear K
      refine zAv ?_
      refine zCi ?_
      refine zAv ?_; clear hK; clear K
      refine ret1 E rfl rfl ?_
      exact ⟨_, rfl, _, rfl, ⟨fun _ => ⟨ps[i], List.getElem_mem hil, by simpa using hb⟩, fun _ => by omega⟩, S.tr⟩
    · replace hb := Nrm.nrm hb
      refine wp_skip ?_
      refine zBo ?_
      refine zAf hK ?_; clear hK; clear K
      refine zAa ?_
      refine zp E (zCc E rfl rfl rfl (by first | exact zCt (y := 1) (by omega) | exact w_in (by omega) | exact zCb (by omega) | exact rfl)) ?_; clear E a; intro a E
      refine zp E (zAd E rfl rfl) ?_; clear E a; intro a E
      refine wpList_nil ?_
      refine zBn ?_
      refine ⟨_, ?_, i + 1, rfl, by omega, ?_, S, E.keep (zAb rfl (zAb rfl (zAb rfl (zAb rfl zAr))))⟩
      · omega
      · intro k hk hki
        by_cases e : k = i
        · subst e; simpa using hb
        · exact hok k hk (by omega)
  · replace hb := Nrm.nrm hb
    refine wp_exit ?_
    refine zBf ?_; clear hK; clear K
    refine zBf ?_
    refine zCr ?_
    refine zAf hK ?_; clear hK; clear K
    refine wp_seq_k ?_; intro K hK
    refine zAa ?_
    refine zp E (zAe E rfl rfl) ?_; clear E a; intro a E
    refine wpList_nil ?_
    refine zAf hK ?_; clear hK; clear K
    refine wp_ret ?_
    refine ret1 E rfl rfl ?_
    refine ⟨_, rfl, _, rfl, ⟨fun h => by omega, fun ⟨p, hp, hq⟩ => ?_⟩, S.tr⟩
    obtain ⟨k, hk, rfl⟩ := List.getElem_of_mem hp
    rw [hok k hk (by omega)] at hq
    cases hq
theorem scfunc_ret (ps : List (List UInt8)) (hl : ps.length ≤ 140737488355328) (hs : ∀ p ∈ ps, p.length ≤ 140737488355328) (g : Nat) (As : List zAs) (hG : [(g, cel (ps.map str) 9)] ∈ As) (w0 : World) (H : Hp w0 As) :
    Ret Tryz.prog 127 #[.slice (some ⟨g, 0, none⟩) ps.length ps.length, .func (.func 128) #[] #[]] w0 fun u w' => ∃ z, u = .bool z ∧ (z = true ↔ ∃ p ∈ ps, zGq p = false) ∧ Trs w0 w' As As := by
  have S := St.begin H
  refine zCg 9 Tryz.func127 rfl rfl (by decide) ?_; intro a E
  refine wp_seq_k ?_; intro K hK
  refine zAa ?_
  refine zp E (zAe E rfl rfl) ?_; clear E a; intro a E
  refine wpList_nil ?_
  refine zAf hK ?_; clear hK; clear K
  refine wp_seq_k ?_; intro K hK
  refine zAa ?_
  iterate 2 (refine zp E (zAd E rfl rfl) ?_; clear E a; intro a E)
  refine zAn E rfl rfl (by decide) rfl Tryz.func133 rfl (by kernel_rfl) rfl (sifunc_ret ps hl hs g _ hG _ S.hp) ?_
  rintro v7 w ⟨i, rfl, hi, hT⟩; clear E a; intro a E
  have S := S.all hT
  refine zp E (zGt E rfl rfl rfl) ?_; clear E a; intro a E
  refine zp E (zAe E rfl rfl) ?_; clear E a; intro a E
  refine wpList_nil ?_
  refine zAf hK ?_; clear hK; clear K
  refine wp_ret ?_
  refine ret1 E rfl rfl ?_
  exact ⟨_, rfl, _, rfl, by rw [decide_eq_true_eq]; exact hi, S.tr⟩
theorem zHm : ∀ (l : List UInt8), ∀ p ∈ zDc l, p.length ≤ l.length
  | [], p, h => by simp [zDc] at h; simp [h]
  | c :: l, p, h => by
    unfold zDc at h
    split at h
    · rcases List.mem_cons.1 h with rfl | h
      · simp
      · have := zHm l p h; simp; omega
    · obtain ⟨q, qs, hq⟩ := zHa l
      rw [hq] at h
      rcases List.mem_cons.1 h with rfl | h
      · have := zHm l q (by rw [hq]; simp); simp; omega
      · have := zHm l p (by rw [hq]; simp [h]); simp; omega
theorem name_ret (l : List UInt8) (hl : l.length ≤ 1100000) (As : List zAs) (w0 : World) (H : Hp w0 As) :
    Ret Tryz.prog 115 #[str l] w0 fun u w' => u = .bool (nameB l) ∧ Trs w0 w' As As := by
  have S := St.begin H
  have hpl := zEz l
  have hcl : l.count 47 ≤ l.length := List.count_le_length
  have hps := zHm l
  refine zDh 19 Tryz.func115 rfl rfl (by decide) ?_; intro a E
  refine wp_seq_k ?_; intro K hK
  refine zAa ?_
  refine zp E (zAe E rfl rfl) ?_; clear E a; intro a E
  refine wpList_nil ?_
  refine zAf hK ?_; clear hK; clear K
  refine wp_seq_k ?_; intro K hK
  refine zAa ?_
  refine zp E (zAd E rfl rfl) ?_; clear E a; intro a E
  refine zAn E rfl rfl (by decide) rfl Tryz.func126 rfl (by kernel_rfl) rfl (split_ret l hl _ _ S.hp) ?_
  rintro v5 w ⟨g, rfl, hT⟩; clear E a; intro a E
  have S := S.all hT
  refine zp E (zAe E rfl rfl) ?_; clear E a; intro a E
  refine wpList_nil ?_
  refine zAf hK ?_; clear hK; clear K
  refine wp_seq_k ?_; intro K hK
  refine zAa ?_
  refine zp E (zAd E rfl rfl) ?_; clear E a; intro a E
  refine zp E (by first | exact zBv E rfl rfl rfl | exact zAx E rfl rfl rfl | exact zAp E rfl rfl rfl) ?_; clear E a; intro a E
  refine zp E (zGb E rfl rfl rfl) ?_; clear E a; intro a E
  refine zp E (zAd E rfl rfl) ?_; clear E a; intro a E
  refine zAw E (t := 9) rfl (fun hb9 => ?_) (fun hb9 => ?_)
  · have hb9n := hb9; replace hb9n := Nrm.nrm hb9n
    refine zy E hb9 (zAd E rfl rfl) ?_; clear E a; intro a E
    refine zy E hb9 (by first | exact zBv E rfl rfl rfl | exact zAx E rfl rfl rfl | exact zAp E rfl rfl rfl) ?_; clear E a; intro a E
    refine zy E hb9 (zGb E rfl rfl rfl) ?_; clear E a; intro a E
    refine zp E (zAk E rfl rfl hb9 rfl) ?_; clear E a; intro a E
    refine zp E (zAd E rfl rfl) ?_; clear E a; intro a E
    refine zAw E (t := 14) rfl (fun hb14 => ?_) (fun hb14 => ?_)
    · have hb14n := hb14; replace hb14n := Nrm.nrm hb14n
      refine zy E hb14 (zAd E rfl rfl) ?_; clear E a; intro a E
      refine zBu E rfl rfl rfl rfl hb14 ?_; refine zCm E rfl (by decide) rfl Tryz.func127 rfl (by kernel_rfl) rfl (scfunc_ret (zDc l) (by omega) (fun p hp => by have := hps p hp; omega) g _ (by repeat (first | exact mm1 | assumption | apply List.Mem.tail)) _ S.hp) ?_
      rintro v16 w ⟨z, rfl, hz, hT⟩; clear E a; intro a E
      have S := S.all hT
      refine zy E hb14 (zDl E rfl rfl) ?_; clear E a; intro a E
      refine zp E (zAk E rfl rfl hb14 rfl) ?_; clear E a; intro a E
      refine zp E (zAe E rfl rfl) ?_; clear E a; intro a E
      refine wpList_nil ?_
      refine zAf hK ?_; clear hK; clear K
      refine wp_ret ?_
      refine ret1 E rfl rfl ?_
      refine ⟨_, rfl, ?_, S.tail.tr⟩
      congr 1
      rw [Bool.eq_iff_iff, zHj]
      first
        | (simp [nameP]; omega)
        | (simp only [nameP, Bool.not_eq_true', ← Bool.not_eq_true, hz]; constructor
           · intro h; exact ⟨by omega, by omega, fun p hp => by simpa using fun q => h ⟨p, hp, q⟩⟩
           · rintro ⟨_, _, h⟩ ⟨p, hp, q⟩; rw [h p hp] at q; exact q rfl)
    · have hb14n := hb14; replace hb14n := Nrm.nrm hb14n
      iterate 3 (refine zn E hb14 ?_; clear E a; intro a E)
      refine zp E (zAj E rfl rfl hb14 rfl) ?_; clear E a; intro a E
      refine zp E (zAe E rfl rfl) ?_; clear E a; intro a E
      refine wpList_nil ?_
      refine zAf hK ?_; clear hK; clear K
      refine wp_ret ?_
      refine ret1 E rfl rfl ?_
      refine ⟨_, rfl, ?_, S.tail.tr⟩
      congr 1
      rw [Bool.eq_iff_iff, zHj]
      first
        | (simp [nameP]; omega)
        | (simp only [nameP, Bool.not_eq_true', ← Bool.not_eq_true, hz]; constructor
           · intro h; exact ⟨by omega, by omega, fun p hp => by simpa using fun q => h ⟨p, hp, q⟩⟩
           · rintro ⟨_, _, h⟩ ⟨p, hp, q⟩; rw [h p hp] at q; exact q rfl)
  · have hb9n := hb9; replace hb9n := Nrm.nrm hb9n
    iterate 3 (refine zn E hb9 ?_; clear E a; intro a E)
    refine zp E (zAj E rfl rfl hb9 rfl) ?_; clear E a; intro a E
    refine zp E (zAd E rfl rfl) ?_; clear E a; intro a E
    iterate 3 (refine zn E rfl ?_; clear E a; intro a E)
    refine zp E (zAj E rfl rfl rfl rfl) ?_; clear E a; intro a E
    refine zp E (zAe E rfl rfl) ?_; clear E a; intro a E
    refine wpList_nil ?_
    refine zAf hK ?_; clear hK; clear K
    refine wp_ret ?_
    refine ret1 E rfl rfl ?_
    refine ⟨_, rfl, ?_, S.tail.tr⟩
    congr 1
    rw [Bool.eq_iff_iff, zHj]
    first
      | (simp [nameP]; omega)
      | (simp only [nameP, Bool.not_eq_true', ← Bool.not_eq_true, hz]; constructor
         · intro h; exact ⟨by omega, by omega, fun p hp => by simpa using fun q => h ⟨p, hp, q⟩⟩
         · rintro ⟨_, _, h⟩ ⟨p, hp, q⟩; rw [h p hp] at q; exact q rfl)
end Go.Proofs.YtbogecljkaimdaaGreatDoor
namespace Go.Sl
theorem zJh {l : List Int} {i : Nat} (h : i < l.length) : (ints l)[i]? = some (.int .i64 l[i]) := by simp [ints, h]
def risAt (l : List Int) (x y : Int) (k : Nat) (h : k < l.length) : Prop := x ≤ l[k] ∧ l[k] ≤ y ∧ ∀ h0 : 0 < k, l[k - 1] < l[k]
theorem ris_no {l : List Int} {x y : Int} {i : Nat} (h : i < l.length) (h1 : ¬ (x ≤ l[i] ∧ l[i] ≤ y) ∨ ∃ h0 : 0 < i, l[i] ≤ l[i - 1]) : risB l x y = false :=
  risB_no fun q => by
    have := q.2 i h
    rcases h1 with h1 | ⟨h0, h1⟩
    · exact h1 ⟨this.1, this.2.1⟩
    · have := this.2.2 h0; omega
theorem ris_end {l : List Int} {x y : Int} (h : ∀ k, ∀ hk : k < l.length, risAt l x y k hk) : risB l x y = true ↔ l.length ≤ 240 := by
  rw [risB_iff]
  exact ⟨fun q => q.1, fun q => ⟨q, h⟩⟩
theorem zHn {n : Nat} {P : (k : Nat) → k < n → Prop} {i : Nat} (h : ∀ k, ∀ hk : k < n, k < i → P k hk) (hi : i < n) (h1 : P i hi) : ∀ k, ∀ hk : k < n, k < i + 1 → P k hk := by
  intro k hk hki
  by_cases e : k = i
  · subst e; exact h1
  · exact h k hk (by omega)
theorem zLg {l : List Prp} {i : Nat} (h : i < l.length) (h1 : ¬ zJu l i h) : zLf l = false := prpsB_no fun q => h1 (q.2 i h)
theorem prps_end {l : List Prp} (h : ∀ k, ∀ hk : k < l.length, zJu l k hk) : zLf l = true ↔ l.length ≤ 12 := by
  rw [prpsB_iff]
  exact ⟨fun q => q.1, fun q => ⟨q, h⟩⟩
end Go.Sl
namespace Go.Proofs.YtbogecljkaimdaaGreatDoor
open Go.Sl
set_option maxRecDepth 10000
theorem zDn (n x y : Int) (As : List zAs) (w0 : World) (H : Hp w0 As) :
    Ret Tryz.prog 49 #[.int .i64 n, .int .i64 x, .int .i64 y] w0 fun u w' => u = .bool (decide (x ≤ n ∧ n ≤ y)) ∧ Trs w0 w' As As := by
  have S := St.begin H
  refine zGs 15 Tryz.func49 rfl rfl (by decide) ?_; intro a E
  refine wp_seq_k ?_; intro K hK
  refine zAa ?_
  refine zp E (zAe E rfl rfl) ?_; clear E a; intro a E
  refine wpList_nil ?_
  refine zAf hK ?_; clear hK; clear K
  refine wp_seq_k ?_; intro K hK
  refine zAa ?_
  iterate 2 (refine zp E (zAd E rfl rfl) ?_; clear E a; intro a E)
  refine zp E (zGt E rfl rfl rfl) ?_; clear E a; intro a E
  refine zp E (zAd E rfl rfl) ?_; clear E a; intro a E
  refine zAw E (t := 10) rfl (fun hb10 => ?_) (fun hb10 => ?_)
  · have hb10n := hb10; replace hb10n := Nrm.nrm hb10n
    iterate 2 (refine zy E hb10 (zAd E rfl rfl) ?_; clear E a; intro a E)
    refine zy E hb10 (zGb E rfl rfl rfl) ?_; clear E a; intro a E
    refine zp E (zAk E rfl rfl hb10 rfl) ?_; clear E a; intro a E
    refine zp E (zAe E rfl rfl) ?_; clear E a; intro a E
    refine wpList_nil ?_
    refine zAf hK ?_; clear hK; clear K
    refine wp_ret ?_
    refine ret1 E rfl rfl ?_
    exact ⟨_, rfl, by congr 1; simp; omega, S.tr⟩
  · have hb10n := hb10; replace hb10n := Nrm.nrm hb10n
    iterate 3 (refine zn E hb10 ?_; clear E a; intro a E)
    refine zp E (zAj E rfl rfl hb10 rfl) ?_; clear E a; intro a E
    refine zp E (zAe E rfl rfl) ?_; clear E a; intro a E
    refine wpList_nil ?_
    refine zAf hK ?_; clear hK; clear K
    refine wp_ret ?_
    refine ret1 E rfl rfl ?_
    exact ⟨_, rfl, by congr 1; simp; omega, S.tr⟩
theorem ris_ret (C : zAs) (v : Value) (l : List Int) (hR : Rd C 1 v l.length (ints l)) (hl : l.length ≤ 140737488355328) (x y : Int) (As : List zAs) (hC : C ∈ As) (w0 : World) (H : Hp w0 As) :
    Ret Tryz.prog 56 #[v, .int .i64 x, .int .i64 y] w0 fun u w' => u = .bool (risB l x y) ∧ Trs w0 w' As As := by
  have S := St.begin H
  obtain ⟨ad, c, rfl⟩ := hR.slice
  refine zGs 38 Tryz.func56 rfl rfl (by decide) ?_; intro a E
  refine wp_seq_k ?_; intro K hK
  refine zAa ?_
  refine zp E (zAe E rfl rfl) ?_; clear E a; intro a E
  refine wpList_nil ?_
  refine zAf hK ?_; clear hK; clear K
  iterate 2 (refine wp_seq_k ?_; intro K hK)
  refine zAa ?_
  refine zp E (zAd E rfl rfl) ?_; clear E a; intro a E
  refine zp E (by first | exact zBv E rfl rfl rfl | exact zAx E rfl rfl rfl | exact zAp E rfl rfl rfl) ?_; clear E a; intro a E
  refine zp E (zAd E rfl rfl) ?_; clear E a; intro a E
  refine wpList_nil ?_
  refine zAf hK ?_; clear hK; clear K
  refine wp_block ?_
  refine wp_loop_ghost (fun (m : Nat) (a : Act) (w' : World) => ∃ i : Nat, m = l.length - i ∧ i ≤ l.length ∧ (∀ k, ∀ hk : k < l.length, k < i → risAt l x y k hk) ∧ St w0 As w' As ∧ Fr a 38 [(0, .slice ad l.length c), (1, .int .i64 x), (2, .int .i64 y), (9, .slice ad l.length c), (10, .int .i64 l.length), (11, .int .i64 i)]) (l.length) ?_ ?_
  · exact ⟨0, by omega, by omega, by intro k _ h; omega, S, E.keep (zAb rfl (zAb rfl (zAb rfl (zAb rfl (zAb rfl (zAb rfl zAr))))))⟩
  clear E; clear a; (try clear S); rintro m a w ⟨i, rfl, hi, hok, S, E⟩
  refine wp_seq_k ?_; intro K hK
  refine zAa ?_
  refine zp E (zCw E rfl rfl rfl) ?_; clear E a; intro a E
  refine wpList_nil ?_
  refine zAf hK ?_; clear hK; clear K
  refine wp_seq_k ?_; intro K hK
  refine zBj E rfl (fun hb => ?_) (fun hb => ?_)
  · replace hb := Nrm.nrm hb
    refine wp_skip ?_
    refine zAf hK ?_; clear hK; clear K
    refine wp_seq_k ?_; intro K hK
    refine wp_block ?_
    refine wp_seq_k ?_; intro K hK
    have hil : i < l.length := by omega
    obtain ⟨b, off, rfl⟩ := hR.addr (by omega)
    refine zAa ?_
    refine zp E (zAd E rfl rfl) ?_; clear E a; intro a E
    refine zp E (by first | exact zBp E rfl rfl rfl rfl rfl rfl (by omega) | exact zBs E rfl rfl rfl rfl rfl rfl (by omega) | exact zBe E rfl rfl rfl rfl rfl rfl (by omega)) ?_; clear E a; intro a E
    refine zp E (zAl E rfl rfl rfl (hR.cells (S.stab.at hC) rfl i _ (zJh hil))) ?_; clear E a; intro a E
    iterate 2 (refine zp E (zAe E rfl rfl) ?_; clear E a; intro a E)
    refine wpList_nil ?_
    refine zAf hK ?_; clear hK; clear K
    refine wp_seq_k ?_; intro K hK
    refine zAa ?_
    iterate 3 (refine zp E (zAd E rfl rfl) ?_; clear E a; intro a E)
    refine zAn E rfl rfl (by decide) rfl Tryz.func49 rfl (by kernel_rfl) rfl (zDn l[i] x y _ _ S.hp) ?_
    rintro v19 w ⟨rfl, hT⟩; clear E a; intro a E
    have S := S.all hT
    refine zp E (zDl E rfl rfl) ?_; clear E a; intro a E
    refine zp E (zAd E rfl rfl) ?_; clear E a; intro a E
    refine zAw E (t := 21) rfl (fun hb21 => ?_) (fun hb21 => ?_)
    · have hb21n := hb21; replace hb21n := Nrm.nrm hb21n
      iterate 3 (refine zn E hb21 ?_; clear E a; intro a E)
      iterate 7 (refine zu E ?_; clear E a; intro a E)
      refine zn E hb21 ?_; clear E a; intro a E
      refine zp E (zAk E rfl rfl hb21 rfl) ?_; clear E a; intro a E
      refine wpList_nil ?_
      refine zAf hK ?_; clear hK; clear K
      refine zBy E rfl rfl ?_
      refine wp_seq_k ?_; intro K hK
      refine zAa ?_
      refine zp E (zAe E rfl rfl) ?_; clear E a; intro a E
      refine wpList_nil ?_
      refine zAf hK ?_; clear hK; clear K
      refine wp_ret ?_
      refine zCi ?_
      refine zAv ?_; clear hK; clear K
      refine zAv ?_
      refine zCi ?_
      refine zAv ?_; clear hK; clear K
      refine ret1 E rfl rfl ?_
      exact ⟨_, rfl, by congr 1; exact (ris_no hil (by first | exact .inr ⟨by omega, hb⟩ | (refine .inl fun q => ?_; simp [q] at hb21; done))).symm, S.tr⟩
    · have hb21n := hb21; replace hb21n := Nrm.nrm hb21n
      refine zy E hb21 (zAd E rfl rfl) ?_; clear E a; intro a E
      refine zy E hb21 (zEi E rfl rfl rfl) ?_; clear E a; intro a E
      refine zy E hb21 (zAd E rfl rfl) ?_; clear E a; intro a E
      refine zAw E (t := 24) rfl (fun hb24 => ?_) (fun hb24 => ?_)
      · have hb24n := hb24; replace hb24n := Nrm.nrm hb24n
        iterate 2 (refine zy E hb24 (zAd E rfl rfl) ?_; clear E a; intro a E)
        refine zy E hb24 (zEw E rfl rfl rfl (by first | exact zIc (y := 1) (by omega) (by omega) | exact w_in (by omega) | exact zCb (by omega) | exact rfl)) ?_; clear E a; intro a E
        refine zy E hb24 (by first | exact zBp E rfl rfl rfl rfl rfl rfl (by omega) | exact zBs E rfl rfl rfl rfl rfl rfl (by omega) | exact zBe E rfl rfl rfl rfl rfl rfl (by omega)) ?_; clear E a; intro a E
        refine zy E hb24 (zAl E rfl rfl rfl (hR.cells (S.stab.at hC) rfl (i - 1) _ (zJh (by omega)))) ?_; clear E a; intro a E
        refine zy E hb24 (zAd E rfl rfl) ?_; clear E a; intro a E
        refine zy E hb24 (zGt E rfl rfl rfl) ?_; clear E a; intro a E
        refine zy E hb21 (zAk E rfl rfl hb24 rfl) ?_; clear E a; intro a E
        refine zp E (zAj E rfl rfl hb21 rfl) ?_; clear E a; intro a E
        refine wpList_nil ?_
        refine zAf hK ?_; clear hK; clear K
        refine zBj E rfl (fun hb => ?_) (fun hb => ?_)
        · replace hb := Nrm.nrm hb
          refine wp_seq_k ?_; intro K hK
          refine zAa ?_
          refine zp E (zAe E rfl rfl) ?_; clear E a; intro a E
          refine wpList_nil ?_
          refine zAf hK ?_; clear hK; clear K
          refine wp_ret ?_
          refine zCi ?_
          refine zAv ?_; clear hK; clear K
          refine zAv ?_
          refine zCi ?_
          refine zAv ?_; clear hK; clear K
          refine ret1 E rfl rfl ?_
          exact ⟨_, rfl, by congr 1; exact (ris_no hil (by first | exact .inr ⟨by omega, hb⟩ | (refine .inl fun q => ?_; simp [q] at hb21; done))).symm, S.tr⟩
        · replace hb := Nrm.nrm hb
          refine wp_skip ?_
          refine zBo ?_
          refine zAf hK ?_; clear hK; clear K
          refine zAa ?_
          refine zp E (zCc E rfl rfl rfl (by first | exact zCt (y := 1) (by omega) | exact w_in (by omega) | exact zCb (by omega) | exact rfl)) ?_; clear E a; intro a E
          refine zp E (zAd E rfl rfl) ?_; clear E a; intro a E
          refine wpList_nil ?_
          refine zBn ?_
          exact ⟨_, by omega, i + 1, rfl, by omega, zHn hok hil (by have q : x ≤ l[i] ∧ l[i] ≤ y := (by simpa using hb21); exact ⟨q.1, q.2, fun h0 => by first | omega | exact absurd h0 (by omega)⟩), S, E.keep (zAb rfl (zAb rfl (zAb rfl (zAb rfl (zAb rfl (zAb rfl zAr))))))⟩
      · have hb24n := hb24; replace hb24n := Nrm.nrm hb24n
        iterate 7 (refine zn E hb24 ?_; clear E a; intro a E)
        refine zy E hb21 (zAj E rfl rfl hb24 rfl) ?_; clear E a; intro a E
        refine zp E (zAj E rfl rfl hb21 rfl) ?_; clear E a; intro a E
        refine wpList_nil ?_
        refine zAf hK ?_; clear hK; clear K
        refine zCl E rfl rfl ?_
        refine wp_skip ?_
        refine zBo ?_
        refine zAf hK ?_; clear hK; clear K
        refine zAa ?_
        refine zp E (zCc E rfl rfl rfl (by first | exact zCt (y := 1) (by omega) | exact w_in (by omega) | exact zCb (by omega) | exact rfl)) ?_; clear E a; intro a E
        refine zp E (zAd E rfl rfl) ?_; clear E a; intro a E
        refine wpList_nil ?_
        refine zBn ?_
        exact ⟨_, by omega, i + 1, rfl, by omega, zHn hok hil (by have q : x ≤ l[i] ∧ l[i] ≤ y := (by simpa using hb21); exact ⟨q.1, q.2, fun h0 => by first | omega | exact absurd h0 (by omega)⟩), S, E.keep (zAb rfl (zAb rfl (zAb rfl (zAb rfl (zAb rfl (zAb rfl zAr))))))⟩
  · replace hb := Nrm.nrm hb
    refine wp_exit ?_
    refine zBf ?_; clear hK; clear K
    refine zBf ?_
    refine zCr ?_
    refine zAf hK ?_; clear hK; clear K
    refine wp_seq_k ?_; intro K hK
    refine zAa ?_
    refine zp E (zAd E rfl rfl) ?_; clear E a; intro a E
    refine zp E (by first | exact zBv E rfl rfl rfl | exact zAx E rfl rfl rfl | exact zAp E rfl rfl rfl) ?_; clear E a; intro a E
    refine zp E (zGb E rfl rfl rfl) ?_; clear E a; intro a E
    refine zp E (zAe E rfl rfl) ?_; clear E a; intro a E
    refine wpList_nil ?_
    refine zAf hK ?_; clear hK; clear K
    refine wp_ret ?_
    refine ret1 E rfl rfl ?_
    exact ⟨_, rfl, by congr 1; rw [Bool.eq_iff_iff, ris_end (l := l) (fun k hk => hok k hk (by omega))]; simp; omega, S.tr⟩
theorem props_ret (C : zAs) (v : Value) (l : List Prp) (hR : Rd C 2 v l.length (l.flatMap Prp.lay)) (hl : l.length ≤ 140737488355328) (hs : ∀ p ∈ l, p.name.length ≤ 1048576 ∧ p.value.length ≤ 1048576) (As : List zAs) (hC : C ∈ As) (w0 : World) (H : Hp w0 As) :
    Ret Tryz.prog 116 #[v] w0 fun u w' => u = .bool (zLf l) ∧ Trs w0 w' As As := by
  have S := St.begin H
  obtain ⟨ad, c, rfl⟩ := hR.slice
  refine zDh 48 Tryz.func116 rfl rfl (by decide) ?_; intro a E
  refine wp_seq_k ?_; intro K hK
  refine zAa ?_
  refine zp E (zAe E rfl rfl) ?_; clear E a; intro a E
  refine wpList_nil ?_
  refine zAf hK ?_; clear hK; clear K
  iterate 2 (refine wp_seq_k ?_; intro K hK)
  refine zAa ?_
  refine zp E (zAd E rfl rfl) ?_; clear E a; intro a E
  refine zp E (by first | exact zBv E rfl rfl rfl | exact zAx E rfl rfl rfl | exact zAp E rfl rfl rfl) ?_; clear E a; intro a E
  refine zp E (zAd E rfl rfl) ?_; clear E a; intro a E
  refine wpList_nil ?_
  refine zAf hK ?_; clear hK; clear K
  refine wp_block ?_
  refine wp_loop_ghost (fun (m : Nat) (a : Act) (w' : World) => ∃ i : Nat, m = l.length - i ∧ i ≤ l.length ∧ (∀ k, ∀ hk : k < l.length, k < i → zJu l k hk) ∧ St w0 As w' As ∧ Fr a 48 [(0, .slice ad l.length c), (5, .slice ad l.length c), (6, .int .i64 l.length), (7, .int .i64 i)]) (l.length) ?_ ?_
  · exact ⟨0, by omega, by omega, by intro k _ h; omega, S, E.keep (zAb rfl (zAb rfl (zAb rfl (zAb rfl zAr))))⟩
  clear E; clear a; (try clear S); rintro m a w ⟨i, rfl, hi, hok, S, E⟩
  refine wp_seq_k ?_; intro K hK
  refine zAa ?_
  refine zp E (zCw E rfl rfl rfl) ?_; clear E a; intro a E
  refine wpList_nil ?_
  refine zAf hK ?_; clear hK; clear K
  refine wp_seq_k ?_; intro K hK
  refine zBj E rfl (fun hb => ?_) (fun hb => ?_)
  · replace hb := Nrm.nrm hb
    refine wp_skip ?_
    refine zAf hK ?_; clear hK; clear K
    refine wp_seq_k ?_; intro K hK
    refine wp_block ?_
    refine wp_seq_k ?_; intro K hK
    have hil : i < l.length := by omega
    obtain ⟨b, off, rfl⟩ := hR.addr (by omega)
    have hsi := hs _ (List.getElem_mem hil)
    refine zAa ?_
    refine zp E (zAd E rfl rfl) ?_; clear E a; intro a E
    refine zp E (by first | exact zBp E rfl rfl rfl rfl rfl rfl (by omega) | exact zBs E rfl rfl rfl rfl rfl rfl (by omega) | exact zBe E rfl rfl rfl rfl rfl rfl (by omega)) ?_; clear E a; intro a E
    refine zp E (zDj (vs := [_, _]) E rfl rfl rfl rfl (hR.elem (lay := Prp.lay) Prp.lay_len (S.stab.at hC) hil)) ?_; clear E a; intro a E
    refine zAm rfl (zBr E S rfl rfl (by decide) rfl rfl rfl ?_); clear E S a; intro a w b4 E S
    refine zp E (zAe E rfl rfl) ?_; clear E a; intro a E
    refine zAm rfl (zBd E S rfl rfl rfl rfl (by simp [Value.oneCell']) rfl (by repeat (first | exact pk1 | apply zAc)) (by simp) ?_); clear E S a; intro a w E S; simp only [List.take_succ_cons, List.take_zero, List.drop_succ_cons, List.drop_zero, List.cons_append, List.nil_append, List.append_nil, List.length_cons, List.length_nil, Nat.zero_add, Nat.add_zero] at S
    refine wpList_nil ?_
    refine zAf hK ?_; clear hK; clear K
    refine wp_seq_k ?_; intro K hK
    obtain ⟨p, hp⟩ : ∃ p, p = l[i] := ⟨_, rfl⟩
    rw [← hp] at S hsi
    refine zDm S (.ofL [(0, 0), (1, 0), (2, 1), (3, 0), (4, 0), (5, 0), (6, 0), (7, 0), (8, 1), (9, 0), (10, 0), (11, 0), (12, 0), (13, 0), (14, 1), (15, 0), (16, 0), (17, 0), (18, 0), (19, 0), (20, 0), (21, 0), (22, 0), (23, 0), (24, 0), (25, 0), (26, 0), (27, 0), (28, 0), (29, 0), (30, 0), (31, 0)]) [C, [(b4, cel [str p.name, str p.value] 70)]] (fun h => h.sub (by first | (simp; done) | (simp +contextual; done) | (simp [*]; done))) (by kernel_rfl) (by kernel_rfl) ?_
    clear S; intro w S
    refine zm E rfl (fun w h => by first | exact zAg (q := 0) E rfl rfl rfl | exact zAh (q := 0) E rfl rfl rfl) ?_; clear E a; intro a E
    refine zm E rfl (fun w h => by first | exact zAq E rfl rfl rfl (h.one (by repeat (first | exact mm1 | assumption | apply List.Mem.tail))) rfl | exact zAl E rfl rfl rfl (by assumption)) ?_; clear E a; intro a E
    refine zCn E rfl rfl rfl (by decide) rfl Tryz.func48 rfl (by kernel_rfl) rfl (zHl p.name (by omega) _ _ S.hp) ?_
    rintro v14 w ⟨rfl, hT⟩; clear E a; intro a E
    have S := S.all hT
    refine ⟨S.stab.sub (by first | (simp; done) | (simp +contextual; done) | (simp [*]; done)), ?_⟩
    refine zm E rfl (fun w h => zDl E rfl rfl) ?_; clear E a; intro a E
    refine zm E rfl (fun w h => zAd E rfl rfl) ?_; clear E a; intro a E
    refine zAw E (t := 16) rfl (fun hb16 => ?_) (fun hb16 => ?_)
    · have hb16n := hb16; replace hb16n := Nrm.nrm hb16n
      iterate 3 (refine zCj E rfl rfl rfl rfl rfl hb16 rfl (by decide) ?_; clear E a; intro a E)
      refine zEv E rfl rfl rfl rfl rfl hb16 rfl (by decide) (S.stab.sub (by first | (simp; done) | (simp +contextual; done) | (simp [*]; done))) ?_; clear E a; intro a E
      refine zCj E rfl rfl rfl rfl rfl hb16 rfl (by decide) ?_; clear E a; intro a E
      refine zm E rfl (fun w h => zAk E rfl rfl hb16 rfl) ?_; clear E a; intro a E
      refine zm E rfl (fun w h => zAd E rfl rfl) ?_; clear E a; intro a E
      iterate 2 (refine zCj E rfl rfl rfl rfl rfl rfl rfl (by decide) ?_; clear E a; intro a E)
      refine zEv E rfl rfl rfl rfl rfl rfl rfl (by decide) (S.stab.sub (by first | (simp; done) | (simp +contextual; done) | (simp [*]; done))) ?_; clear E a; intro a E
      refine zCj E rfl rfl rfl rfl rfl rfl rfl (by decide) ?_; clear E a; intro a E
      refine zm E rfl (fun w h => zAk E rfl rfl rfl rfl) ?_; clear E a; intro a E
      refine zm E rfl (fun w h => zAd E rfl rfl) ?_; clear E a; intro a E
      iterate 3 (refine zCj E rfl rfl rfl rfl rfl rfl rfl (by decide) ?_; clear E a; intro a E)
      iterate 9 (refine zFg E rfl rfl rfl rfl rfl rfl (by decide) ?_; clear E a; intro a E)
      refine zCj E rfl rfl rfl rfl rfl rfl rfl (by decide) ?_; clear E a; intro a E
      refine zm E rfl (fun w h => zAk E rfl rfl rfl rfl) ?_; clear E a; intro a E
      refine zCd ?_
      refine zAf hK ?_; clear hK; clear K
      refine zBy E rfl rfl ?_
      refine wp_seq_k ?_; intro K hK
      refine zAa ?_
      refine zp E (zAe E rfl rfl) ?_; clear E a; intro a E
      refine wpList_nil ?_
      refine zAf hK ?_; clear hK; clear K
      refine wp_ret ?_
      refine zCi ?_
      refine zAv ?_; clear hK; clear K
      refine zAv ?_
      refine zCi ?_
      refine zAv ?_; clear hK; clear K
      refine ret1 E rfl rfl ?_
      exact ⟨_, rfl, by congr 1; exact (zLg hil (by
        unfold zJu; rw [← hp]; rintro ⟨q1, q2, q3, q4, q5⟩
        first | (simp [q1] at hb16; done) | (simp at hb23; omega) | (simp [q4] at hb29; done) | (simp [q5 (by omega)] at hb; done))).symm, S.tail.tr⟩
    · have hb16n := hb16; replace hb16n := Nrm.nrm hb16n
      refine zBt E rfl rfl rfl rfl rfl hb16 rfl (by decide) (fun w h => by first | exact zAg (q := 1) E rfl rfl rfl | exact zAh (q := 1) E rfl rfl rfl) ?_; clear E a; intro a E
      refine zBt E rfl rfl rfl rfl rfl hb16 rfl (by decide) (fun w h => by first | exact zAq E rfl rfl rfl (h.one (by repeat (first | exact mm1 | assumption | apply List.Mem.tail))) rfl | exact zAl E rfl rfl rfl (by assumption)) ?_; clear E a; intro a E
      refine zBt E rfl rfl rfl rfl rfl hb16 rfl (by decide) (fun w h => by first | exact zBv E rfl rfl rfl | exact zAx E rfl rfl rfl | exact zAp E rfl rfl rfl) ?_; clear E a; intro a E
      refine zHe E rfl rfl rfl rfl rfl hb16 ?_; refine zCm E rfl (by decide) rfl Tryz.func49 rfl (by kernel_rfl) rfl (zDn p.value.length 1 64 _ _ S.hp) ?_
      rintro v20 w ⟨rfl, hT⟩; clear E a; intro a E
      have S := S.all hT
      refine ⟨S.stab.sub (by first | (simp; done) | (simp +contextual; done) | (simp [*]; done)), ?_⟩
      refine zBt E rfl rfl rfl rfl rfl hb16 rfl (by decide) (fun w h => zDl E rfl rfl) ?_; clear E a; intro a E
      refine zm E rfl (fun w h => zAj E rfl rfl hb16 rfl) ?_; clear E a; intro a E
      refine zm E rfl (fun w h => zAd E rfl rfl) ?_; clear E a; intro a E
      refine zAw E (t := 23) rfl (fun hb23 => ?_) (fun hb23 => ?_)
      · have hb23n := hb23; replace hb23n := Nrm.nrm hb23n
        iterate 2 (refine zCj E rfl rfl rfl rfl rfl hb23 rfl (by decide) ?_; clear E a; intro a E)
        refine zEv E rfl rfl rfl rfl rfl hb23 rfl (by decide) (S.stab.sub (by first | (simp; done) | (simp +contextual; done) | (simp [*]; done))) ?_; clear E a; intro a E
        refine zCj E rfl rfl rfl rfl rfl hb23 rfl (by decide) ?_; clear E a; intro a E
        refine zm E rfl (fun w h => zAk E rfl rfl hb23 rfl) ?_; clear E a; intro a E
        refine zm E rfl (fun w h => zAd E rfl rfl) ?_; clear E a; intro a E
        iterate 3 (refine zCj E rfl rfl rfl rfl rfl rfl rfl (by decide) ?_; clear E a; intro a E)
        iterate 9 (refine zFg E rfl rfl rfl rfl rfl rfl (by decide) ?_; clear E a; intro a E)
        refine zCj E rfl rfl rfl rfl rfl rfl rfl (by decide) ?_; clear E a; intro a E
        refine zm E rfl (fun w h => zAk E rfl rfl rfl rfl) ?_; clear E a; intro a E
        refine zCd ?_
        refine zAf hK ?_; clear hK; clear K
        refine zBy E rfl rfl ?_
        refine wp_seq_k ?_; intro K hK
        refine zAa ?_
        refine zp E (zAe E rfl rfl) ?_; clear E a; intro a E
        refine wpList_nil ?_
        refine zAf hK ?_; clear hK; clear K
        refine wp_ret ?_
        refine zCi ?_
        refine zAv ?_; clear hK; clear K
        refine zAv ?_
        refine zCi ?_
        refine zAv ?_; clear hK; clear K
        refine ret1 E rfl rfl ?_
        exact ⟨_, rfl, by congr 1; exact (zLg hil (by
          unfold zJu; rw [← hp]; rintro ⟨q1, q2, q3, q4, q5⟩
          first | (simp [q1] at hb16; done) | (simp at hb23; omega) | (simp [q4] at hb29; done) | (simp [q5 (by omega)] at hb; done))).symm, S.tail.tr⟩
      · have hb23n := hb23; replace hb23n := Nrm.nrm hb23n
        refine zBt E rfl rfl rfl rfl rfl hb23 rfl (by decide) (fun w h => by first | exact zAg (q := 1) E rfl rfl rfl | exact zAh (q := 1) E rfl rfl rfl) ?_; clear E a; intro a E
        refine zBt E rfl rfl rfl rfl rfl hb23 rfl (by decide) (fun w h => by first | exact zAq E rfl rfl rfl (h.one (by repeat (first | exact mm1 | assumption | apply List.Mem.tail))) rfl | exact zAl E rfl rfl rfl (by assumption)) ?_; clear E a; intro a E
        refine zHe E rfl rfl rfl rfl rfl hb23 ?_; refine zCm E rfl (by decide) rfl Tryz.func129 rfl (by kernel_rfl) rfl (cvalue_ret p.value (by omega) _ _ S.hp) ?_
        rintro v26 w ⟨rfl, hT⟩; clear E a; intro a E
        have S := S.all hT
        refine ⟨S.stab.sub (by first | (simp; done) | (simp +contextual; done) | (simp [*]; done)), ?_⟩
        refine zBt E rfl rfl rfl rfl rfl hb23 rfl (by decide) (fun w h => zDl E rfl rfl) ?_; clear E a; intro a E
        refine zm E rfl (fun w h => zAj E rfl rfl hb23 rfl) ?_; clear E a; intro a E
        refine zm E rfl (fun w h => zAd E rfl rfl) ?_; clear E a; intro a E
        refine zAw E (t := 29) rfl (fun hb29 => ?_) (fun hb29 => ?_)
        · have hb29n := hb29; replace hb29n := Nrm.nrm hb29n
          iterate 3 (refine zCj E rfl rfl rfl rfl rfl hb29 rfl (by decide) ?_; clear E a; intro a E)
          iterate 9 (refine zFg E rfl rfl rfl rfl rfl rfl (by decide) ?_; clear E a; intro a E)
          refine zCj E rfl rfl rfl rfl rfl hb29 rfl (by decide) ?_; clear E a; intro a E
          refine zm E rfl (fun w h => zAk E rfl rfl hb29 rfl) ?_; clear E a; intro a E
          refine zCd ?_
          refine zAf hK ?_; clear hK; clear K
          refine zBy E rfl rfl ?_
          refine wp_seq_k ?_; intro K hK
          refine zAa ?_
          refine zp E (zAe E rfl rfl) ?_; clear E a; intro a E
          refine wpList_nil ?_
          refine zAf hK ?_; clear hK; clear K
          refine wp_ret ?_
          refine zCi ?_
          refine zAv ?_; clear hK; clear K
          refine zAv ?_
          refine zCi ?_
          refine zAv ?_; clear hK; clear K
          refine ret1 E rfl rfl ?_
          exact ⟨_, rfl, by congr 1; exact (zLg hil (by
            unfold zJu; rw [← hp]; rintro ⟨q1, q2, q3, q4, q5⟩
            first | (simp [q1] at hb16; done) | (simp at hb23; omega) | (simp [q4] at hb29; done) | (simp [q5 (by omega)] at hb; done))).symm, S.tail.tr⟩
        · have hb29n := hb29; replace hb29n := Nrm.nrm hb29n
          refine zBt E rfl rfl rfl rfl rfl hb29 rfl (by decide) (fun w h => zAd E rfl rfl) ?_; clear E a; intro a E
          refine zBt E rfl rfl rfl rfl rfl hb29 rfl (by decide) (fun w h => zEi E rfl rfl rfl) ?_; clear E a; intro a E
          refine zBt E rfl rfl rfl rfl rfl hb29 rfl (by decide) (fun w h => zAd E rfl rfl) ?_; clear E a; intro a E
          refine zAw E (t := 32) rfl (fun hb32 => ?_) (fun hb32 => ?_)
          · have hb32n := hb32; replace hb32n := Nrm.nrm hb32n
            iterate 2 (refine zBt E rfl rfl rfl rfl rfl hb32 rfl (by decide) (fun w h => zAd E rfl rfl) ?_; clear E a; intro a E)
            refine zBt E rfl rfl rfl rfl rfl hb32 rfl (by decide) (fun w h => zEw E rfl rfl rfl (by first | exact zIc (y := 1) (by omega) (by omega) | exact w_in (by omega) | exact zCb (by omega) | exact rfl)) ?_; clear E a; intro a E
            refine zBt E rfl rfl rfl rfl rfl hb32 rfl (by decide) (fun w h => by first | exact zBp E rfl rfl rfl rfl rfl rfl (by omega) | exact zBs E rfl rfl rfl rfl rfl rfl (by omega) | exact zBe E rfl rfl rfl rfl rfl rfl (by omega)) ?_; clear E a; intro a E
            refine zBt E rfl rfl rfl rfl rfl hb32 rfl (by decide) (fun w h => by first | exact zAg (q := 0) E rfl rfl rfl | exact zAh (q := 0) E rfl rfl rfl) ?_; clear E a; intro a E
            refine zBt E rfl rfl rfl rfl rfl hb32 rfl (by decide) (fun w h => zAl E rfl rfl rfl (hR.elem (lay := Prp.lay) Prp.lay_len (h.at (by repeat (first | exact mm1 | assumption | apply List.Mem.tail))) (i := i - 1) (by omega) 0 _ rfl)) ?_; clear E a; intro a E
            refine zBt E rfl rfl rfl rfl rfl hb32 rfl (by decide) (fun w h => by first | exact zAg (q := 0) E rfl rfl rfl | exact zAh (q := 0) E rfl rfl rfl) ?_; clear E a; intro a E
            refine zBt E rfl rfl rfl rfl rfl hb32 rfl (by decide) (fun w h => by first | exact zAq E rfl rfl rfl (h.one (by repeat (first | exact mm1 | assumption | apply List.Mem.tail))) rfl | exact zAl E rfl rfl rfl (by assumption)) ?_; clear E a; intro a E
            refine zBt E rfl rfl rfl rfl rfl hb32 rfl (by decide) (fun w h => zKz E rfl rfl rfl) ?_; clear E a; intro a E
            refine zBt E rfl rfl rfl rfl rfl hb29 rfl (by decide) (fun w h => zAk E rfl rfl hb32 rfl) ?_; clear E a; intro a E
            refine zm E rfl (fun w h => zAj E rfl rfl hb29 rfl) ?_; clear E a; intro a E
            refine zCd ?_
            refine zAf hK ?_; clear hK; clear K
            refine zBj E rfl (fun hb => ?_) (fun hb => ?_)
            · replace hb := Nrm.nrm hb
              refine wp_seq_k ?_; intro K hK
              refine zAa ?_
              refine zp E (zAe E rfl rfl) ?_; clear E a; intro a E
              refine wpList_nil ?_
              refine zAf hK ?_; clear hK; clear K
              refine wp_ret ?_
              refine zCi ?_
              refine zAv ?_; clear hK; clear K
              refine zAv ?_
              refine zCi ?_
              refine zAv ?_; clear hK; clear K
              refine ret1 E rfl rfl ?_
              exact ⟨_, rfl, by congr 1; exact (zLg hil (by
                unfold zJu; rw [← hp]; rintro ⟨q1, q2, q3, q4, q5⟩
                first | (simp [q1] at hb16; done) | (simp at hb23; omega) | (simp [q4] at hb29; done) | (simp [q5 (by omega)] at hb; done))).symm, S.tail.tr⟩
            · replace hb := Nrm.nrm hb
              refine wp_skip ?_
              refine zBo ?_
              refine zAf hK ?_; clear hK; clear K
              refine zAa ?_
              refine zp E (zCc E rfl rfl rfl (by first | exact zCt (y := 1) (by omega) | exact w_in (by omega) | exact zCb (by omega) | exact rfl)) ?_; clear E a; intro a E
              refine zp E (zAd E rfl rfl) ?_; clear E a; intro a E
              refine wpList_nil ?_
              refine zBn ?_
              exact ⟨_, by omega, i + 1, rfl, by omega, zHn hok hil (by
                unfold zJu; rw [← hp]
                refine ⟨by simpa using hb16, ?_, ?_, by simpa using hb29, fun h0 => ?_⟩
                · simp at hb23; omega
                · simp at hb23; omega
                · first | (simpa using hb) | exact absurd h0 (by omega)), S.tail, E.keep (zAb rfl (zAb rfl (zAb rfl (zAb rfl zAr))))⟩
          · have hb32n := hb32; replace hb32n := Nrm.nrm hb32n
            iterate 9 (refine zCj E rfl rfl rfl rfl rfl hb32 rfl (by decide) ?_; clear E a; intro a E)
            refine zBt E rfl rfl rfl rfl rfl hb29 rfl (by decide) (fun w h => zAj E rfl rfl hb32 rfl) ?_; clear E a; intro a E
            refine zm E rfl (fun w h => zAj E rfl rfl hb29 rfl) ?_; clear E a; intro a E
            refine zCd ?_
            refine zAf hK ?_; clear hK; clear K
            refine zCl E rfl rfl ?_
            refine wp_skip ?_
            refine zBo ?_
            refine zAf hK ?_; clear hK; clear K
            refine zAa ?_
            refine zp E (zCc E rfl rfl rfl (by first | exact zCt (y := 1) (by omega) | exact w_in (by omega) | exact zCb (by omega) | exact rfl)) ?_; clear E a; intro a E
            refine zp E (zAd E rfl rfl) ?_; clear E a; intro a E
            refine wpList_nil ?_
            refine zBn ?_
            exact ⟨_, by omega, i + 1, rfl, by omega, zHn hok hil (by
              unfold zJu; rw [← hp]
              refine ⟨by simpa using hb16, ?_, ?_, by simpa using hb29, fun h0 => ?_⟩
              · simp at hb23; omega
              · simp at hb23; omega
              · first | (simpa using hb) | exact absurd h0 (by omega)), S.tail, E.keep (zAb rfl (zAb rfl (zAb rfl (zAb rfl zAr))))⟩
  · replace hb := Nrm.nrm hb
    refine wp_exit ?_
    refine zBf ?_; clear hK; clear K
    refine zBf ?_
    refine zCr ?_
    refine zAf hK ?_; clear hK; clear K
    refine wp_seq_k ?_; intro K hK
    refine zAa ?_
    refine zp E (zAd E rfl rfl) ?_; clear E a; intro a E
    refine zp E (by first | exact zBv E rfl rfl rfl | exact zAx E rfl rfl rfl | exact zAp E rfl rfl rfl) ?_; clear E a; intro a E
    refine zp E (zGb E rfl rfl rfl) ?_; clear E a; intro a E
    refine zp E (zAe E rfl rfl) ?_; clear E a; intro a E
    refine wpList_nil ?_
    refine zAf hK ?_; clear hK; clear K
    refine wp_ret ?_
    refine ret1 E rfl rfl ?_
    exact ⟨_, rfl, by congr 1; rw [Bool.eq_iff_iff, prps_end (l := l) (fun k hk => hok k hk (by omega))]; simp; omega, S.tr⟩
end Go.Proofs.YtbogecljkaimdaaGreatDoor
