/-
  Texts put together (2).
-/
import Derived.Test.YtbogecljkaimdaaGreatDoorZRecordWrites1
namespace Go.Proofs.YtbogecljkaimdaaGreatDoor
open Go.Sl
set_option maxRecDepth 10000
theorem zKc (l : List UInt8) (c : UInt8) (As : List zAw) (w0 : World) (H : Hp w0 As) :
    Ret Tryz.prog 131 #[str l, .int .u8 c.toNat] w0 fun u w' => u = .int .i64 (Lib.indexByte l c) ∧ Trs w0 w' As As := by
  have S := St.begin H
  refine zCl 8 Tryz.func131 rfl rfl (by decide) ?_; intro a E
  refine wp_seq_k ?_; intro K hK
  refine zAb ?_
  refine zp E (zAd E rfl rfl) ?_; clear E a; intro a E
  refine wpList_nil ?_
  refine zAf hK ?_; clear hK; clear K
  refine wp_seq_k ?_; intro K hK
  refine zAb ?_
  iterate 2 (refine zp E (zAe E rfl rfl) ?_; clear E a; intro a E)
  refine zAo rfl (zGj E (rn_ibyte (l := l) (c := c) E rfl Tryz.func137 (by kernel_rfl) (by kernel_rfl) (by kernel_rfl) (by kernel_rfl) rfl rfl) rfl (by decide) ?_); clear E a; intro a E
  refine zp E (zAd E rfl rfl) ?_; clear E a; intro a E
  refine wpList_nil ?_
  refine zAf hK ?_; clear hK; clear K
  refine wp_ret ?_
  refine ret1 E rfl rfl ?_
  exact ⟨_, rfl, rfl, S.tr⟩
theorem zLd (l : List UInt8) (c : UInt8) (As : List zAw) (w0 : World) (H : Hp w0 As) :
    Ret Tryz.prog 122 #[str l, .int .u8 c.toNat] w0 fun u w' => u = .int .i64 (Lib.indexByte l c) ∧ Trs w0 w' As As := by
  have S := St.begin H
  refine zCl 8 Tryz.func122 rfl rfl (by decide) ?_; intro a E
  refine wp_seq_k ?_; intro K hK
  refine zAb ?_
  refine zp E (zAd E rfl rfl) ?_; clear E a; intro a E
  refine wpList_nil ?_
  refine zAf hK ?_; clear hK; clear K
  refine wp_seq_k ?_; intro K hK
  refine zAb ?_
  iterate 2 (refine zp E (zAe E rfl rfl) ?_; clear E a; intro a E)
  refine zAp E rfl rfl (by decide) rfl Tryz.func131 rfl (by kernel_rfl) rfl (zKc l c _ _ S.hp) ?_
  rintro v7 w ⟨rfl, hT⟩; clear E a; intro a E
  have S := S.all hT
  refine zp E (zAd E rfl rfl) ?_; clear E a; intro a E
  refine wpList_nil ?_
  refine zAf hK ?_; clear hK; clear K
  refine wp_ret ?_
  refine ret1 E rfl rfl ?_
  exact ⟨_, rfl, rfl, S.tr⟩
theorem dots_small (c : UInt8) (h : c.toNat < 128) : (0 ≤ Lib.indexByte [46, 95, 45] c) ↔ dotB c = true := by
  rw [dotB_iff]
  have e : ∀ k : UInt8, (k == c) = decide (c.toNat = k.toNat) := fun k => by
    by_cases hk : k = c
    · subst hk; simp
    · have : ¬ c.toNat = k.toNat := fun hh => hk (UInt8.toNat_inj.1 hh.symm)
      simp [hk, this]
  simp only [Lib.indexByte, e, show (46 : UInt8).toNat = 46 from rfl, show (95 : UInt8).toNat = 95 from rfl, show (45 : UInt8).toNat = 45 from rfl, decide_eq_true_eq]
  by_cases h1 : c.toNat = 46
  · simp [h1]
  by_cases h2 : c.toNat = 95
  · simp [h2]
  by_cases h3 : c.toNat = 45
  · simp [h3]
  · simp [h1, h2, h3]
theorem noDash (n : Nat) : ((45 : UInt8) == UInt8.ofNat (128 + n % 64)) = false := by
  rw [beq_eq_false_iff_ne]
  intro h
  have := congrArg UInt8.toNat h
  simp at this
  omega
theorem vrune_ret (c : UInt8) (As : List zAw) (w0 : World) (H : Hp w0 As) :
    Ret Tryz.prog 123 #[.int .i32 c.toNat] w0 fun u w' => u = .bool true ∧ Trs w0 w' As As := by
  have S := St.begin H
  have hc := c.toNat_lt
  refine zCu 17 Tryz.func123 rfl rfl (by decide) ?_; intro a E
  refine wp_seq_k ?_; intro K hK
  refine zAb ?_
  refine zp E (zAd E rfl rfl) ?_; clear E a; intro a E
  refine wpList_nil ?_
  refine zAf hK ?_; clear hK; clear K
  refine wp_seq_k ?_; intro K hK
  refine wp_block ?_
  refine wp_seq_k ?_; intro K hK
  refine zAb ?_
  refine zp E (zAe E rfl rfl) ?_; clear E a; intro a E
  refine zp E (zDx E rfl rfl rfl) ?_; clear E a; intro a E
  refine zp E (zAe E rfl rfl) ?_; clear E a; intro a E
  refine zCx E (t := 6) rfl ((by simp)) (fun hb6 => ?_)
  refine zy E hb6 (zAe E rfl rfl) ?_; clear E a; intro a E
  refine zy E hb6 (zCk E rfl rfl rfl) ?_; clear E a; intro a E
  refine zp E (zAk E rfl rfl hb6 rfl) ?_; clear E a; intro a E
  refine zp E (zAd E rfl rfl) ?_; clear E a; intro a E
  refine wpList_nil ?_
  refine zAf hK ?_; clear hK; clear K
  refine zCe E rfl ((by simp only [decide_eq_true_eq]; omega)) ?_
  refine wp_seq_k ?_; intro K hK
  refine zAb ?_
  refine zp E (zAd E rfl rfl) ?_; clear E a; intro a E
  refine wpList_nil ?_
  refine zAf hK ?_; clear hK; clear K
  refine wp_ret ?_
  refine zCj ?_
  refine zAy ?_; clear hK; clear K
  refine ret1 E rfl rfl ?_
  exact ⟨_, rfl, rfl, S.tr⟩
theorem irune_ret (c : UInt8) (As : List zAw) (w0 : World) (H : Hp w0 As) :
    Ret Tryz.prog 114 #[str [46, 95, 45], .int .i32 c.toNat] w0 fun u w' => ∃ i : Int, u = .int .i64 i ∧ (0 ≤ i ↔ dotB c = true) ∧ Trs w0 w' As As := by
  have S := St.begin H
  have hc := c.toNat_lt
  refine zCl 187 Tryz.func114 rfl rfl (by decide) ?_; intro a E
  refine wp_seq_k ?_; intro K hK
  refine zAb ?_
  refine zp E (zAd E rfl rfl) ?_; clear E a; intro a E
  refine wpList_nil ?_
  refine zAf hK ?_; clear hK; clear K
  refine wp_block ?_
  refine wp_seq_k ?_; intro K hK
  refine zAb ?_
  refine zp E (zAe E rfl rfl) ?_; clear E a; intro a E
  refine zp E (zDx E rfl rfl rfl) ?_; clear E a; intro a E
  refine zp E (zAe E rfl rfl) ?_; clear E a; intro a E
  refine zCx E (t := 163) rfl ((by simp)) (fun hb163 => ?_)
  refine zy E hb163 (zAe E rfl rfl) ?_; clear E a; intro a E
  refine zy E hb163 (zCk E rfl rfl rfl) ?_; clear E a; intro a E
  refine zp E (zAk E rfl rfl hb163 rfl) ?_; clear E a; intro a E
  refine zp E (zAd E rfl rfl) ?_; clear E a; intro a E
  refine wpList_nil ?_
  refine zAf hK ?_; clear hK; clear K
  refine zBh E rfl (fun hb => ?_) (fun hb => ?_)
  · replace hb := Nrm.nrm hb
    refine wp_seq_k ?_; intro K hK
    refine zAb ?_
    iterate 2 (refine zp E (zAe E rfl rfl) ?_; clear E a; intro a E)
    refine zp E (zBg E rfl rfl rfl rfl (w8c _)) ?_; clear E a; intro a E
    refine zAp E rfl rfl (by decide) rfl Tryz.func122 rfl (by kernel_rfl) rfl (zLd [46, 95, 45] c _ _ S.hp) ?_
    rintro v170 w ⟨rfl, hT⟩; clear E a; intro a E
    have S := S.all hT
    refine zp E (zAd E rfl rfl) ?_; clear E a; intro a E
    refine wpList_nil ?_
    refine zAf hK ?_; clear hK; clear K
    refine wp_ret ?_
    refine zCj ?_
    refine ret1 E rfl rfl ?_
    exact ⟨_, rfl, _, rfl, dots_small c (by omega), S.tr⟩
  · replace hb := Nrm.nrm hb
    have hge : 128 ≤ c.toNat := (by omega)
    refine wp_seq_k ?_; intro K hK
    refine zAb ?_
    refine zp E (zAe E rfl rfl) ?_; clear E a; intro a E
    refine zp E (by first | exact zCc E rfl rfl rfl | exact zAs E rfl rfl rfl rfl | exact zBb E rfl rfl rfl rfl | exact zAt E rfl rfl rfl) ?_; clear E a; intro a E
    refine zp E (zAd E rfl rfl) ?_; clear E a; intro a E
    refine wpList_nil ?_
    refine zAf hK ?_; clear hK; clear K
    refine zBh E rfl (fun hb => ?_) (fun hb => ?_)
    · replace hb := Nrm.nrm hb
      exfalso; omega
    · replace hb := Nrm.nrm hb
      refine wp_seq_k ?_; intro K hK
      refine zAb ?_
      refine zp E (zAe E rfl rfl) ?_; clear E a; intro a E
      refine zAp E rfl rfl (by decide) rfl Tryz.func123 rfl (by kernel_rfl) rfl (vrune_ret c _ _ S.hp) ?_
      rintro v185 w ⟨rfl, hT⟩; clear E a; intro a E
      have S := S.all hT
      refine zp E (zDe E rfl rfl) ?_; clear E a; intro a E
      refine zp E (zAd E rfl rfl) ?_; clear E a; intro a E
      refine wpList_nil ?_
      refine zAf hK ?_; clear hK; clear K
      refine zDd E rfl ((by rfl)) ?_
      refine wp_scope1 ?_
      refine wp_seq_k ?_; intro K hK
      refine zAb ?_
      refine zp E (zAe E rfl rfl) ?_; clear E a; intro a E
      refine zp E (rn_itos E rfl rfl rfl rfl (by omega) (by omega)) ?_; clear E a; intro a E
      refine zp E (zAd E rfl rfl) ?_; clear E a; intro a E
      refine wpList_nil ?_
      refine zAf hK ?_; clear hK; clear K
      refine wp_seq_k ?_; intro K hK
      refine zAb ?_
      refine zp E (zAe E rfl rfl) ?_; clear E a; intro a E
      refine zp E (by first | exact zBu E rfl rfl rfl | exact zAx E rfl rfl rfl | exact zAq E rfl rfl rfl) ?_; clear E a; intro a E
      refine zp E (zEe E rfl rfl rfl (by first | exact zFu (y := 1) (by omega) (by omega) | exact w_in (by omega) | exact zBw (by omega) | exact rfl)) ?_; clear E a; intro a E
      refine zp E (zAd E rfl rfl) ?_; clear E a; intro a E
      refine wpList_nil ?_
      refine zAf hK ?_; clear hK; clear K
      refine wp_seq_k ?_; intro K hK
      replace E := E.keep (e' := [(0, _), (1, _), (4, _), (7, _), (8, _)]) (zAa rfl (zAa rfl (zAa rfl (zAa rfl (zAa rfl (zAm))))))
      refine zAb ?_
      refine zp E (zAe E rfl rfl) ?_; clear E a; intro a E
      refine zp E (zAd E rfl rfl) ?_; clear E a; intro a E
      refine wpList_nil ?_
      refine zAf hK ?_; clear hK; clear K
      refine wp_seq_k ?_; intro K hK
      refine zAb ?_
      refine zp E (zAd E rfl rfl) ?_; clear E a; intro a E
      refine wpList_nil ?_
      refine zAf hK ?_; clear hK; clear K
      refine wp_seq_k ?_; intro K hK
      refine wp_block ?_
      refine wp_loop_ghost (fun (m : Nat) (a : Act) (w' : World) => m = 0 ∧ St w0 As w' As ∧ Fr a 187 [(0, str [46, 95, 45]), (1, .int .i32 c.toNat), (7, str [UInt8.ofNat (192 + c.toNat / 64), UInt8.ofNat (128 + c.toNat % 64)]), (8, .int .i64 1), (9, .int .i64 1), (10, .int .i64 0)]) (0) ?_ ?_
      · exact ⟨rfl, S, E.keep (zAa rfl (zAa rfl (zAa rfl (zAa rfl (zAa rfl (zAa rfl zAm))))))⟩
      clear E; clear a; (try clear S); rintro m a w ⟨rfl, S, E⟩
      iterate 2 (refine wp_seq_k ?_; intro K hK)
      refine zAb ?_
      iterate 2 (refine zp E (zAe E rfl rfl) ?_; clear E a; intro a E)
      refine zp E (by first | exact zBu E rfl rfl rfl | exact zAx E rfl rfl rfl | exact zAq E rfl rfl rfl) ?_; clear E a; intro a E
      refine zp E (zCk E rfl rfl rfl) ?_; clear E a; intro a E
      refine wpList_nil ?_
      refine zAf hK ?_; clear hK; clear K
      refine zCe E rfl ((by rfl)) ?_
      refine wp_skip ?_
      refine zAf hK ?_; clear hK; clear K
      refine wp_block ?_
      refine wp_scope1 ?_
      iterate 2 (refine wp_seq_k ?_; intro K hK)
      refine zCb S (.ofL [(0, 0), (1, 0), (2, 0), (3, 0), (4, 0), (5, 0), (6, 0)]) (by kernel_rfl) (by kernel_rfl) ?_
      clear S; intro w S
      iterate 2 (refine zm E rfl (fun w h => zAe E rfl rfl) ?_; clear E a; intro a E)
      refine zm E rfl (fun w h => zCz (l := [46, 95, 45]) (i := 1) E rfl rfl rfl rfl rfl (by decide)) ?_; clear E a; intro a E
      iterate 2 (refine zm E rfl (fun w h => zAe E rfl rfl) ?_; clear E a; intro a E)
      refine zm E rfl (fun w h => zCz (l := [UInt8.ofNat (192 + c.toNat / 64), UInt8.ofNat (128 + c.toNat % 64)]) (i := 1) E rfl rfl rfl rfl rfl (Nat.le_of_ble_eq_true rfl)) ?_; clear E a; intro a E
      refine zm E rfl (fun w h => by first | exact zDa E rfl rfl rfl | exact zBi E rfl rfl rfl rfl | exact zBs E rfl rfl rfl rfl | exact zBl E rfl rfl rfl) ?_; clear E a; intro a E
      refine zBz ?_
      refine zAf hK ?_; clear hK; clear K
      refine zCe E rfl ((by simp; omega)) ?_
      refine wp_seq_k ?_; intro K hK
      refine zCb S (.ofL [(0, 0), (1, 0), (2, 0), (3, 0), (4, 0), (5, 0), (6, 0), (7, 3), (8, 2)]) (by kernel_rfl) (by kernel_rfl) ?_
      clear S; intro w S
      iterate 2 (refine zm E rfl (fun w h => zAe E rfl rfl) ?_; clear E a; intro a E)
      refine zm E rfl (fun w h => zBt E rfl rfl rfl (by first | exact zCh (y := 1) (by omega) | exact w_in (by omega) | exact zBw (by omega) | exact rfl)) ?_; clear E a; intro a E
      refine zm E rfl (fun w h => rn_str_l (lo := 2) E rfl rfl rfl rfl rfl (Nat.le_of_ble_eq_true rfl)) ?_; clear E a; intro a E
      iterate 2 (refine zm E rfl (fun w h => zAe E rfl rfl) ?_; clear E a; intro a E)
      refine zm E rfl (fun w h => zCz (l := [UInt8.ofNat (192 + c.toNat / 64), UInt8.ofNat (128 + c.toNat % 64)]) (i := 1) E rfl rfl rfl rfl rfl (Nat.le_of_ble_eq_true rfl)) ?_; clear E a; intro a E
      refine zId E rfl rfl rfl (by decide) rfl Tryz.func122 rfl (by kernel_rfl) rfl (zLd [45] (UInt8.ofNat (128 + c.toNat % 64)) _ _ S.hp) ?_
      rintro v41 w ⟨rfl, hT⟩; clear E a; intro a E
      have S := S.all hT
      refine zDi E rfl rfl rfl (by decide) (fun w => zAd E rfl rfl) ?_; clear E a; intro a E
      refine zBz ?_
      refine zAf hK ?_; clear hK; clear K
      iterate 2 (refine wp_seq_k ?_; intro K hK)
      refine zAb ?_
      refine zp E (zAe E rfl rfl) ?_; clear E a; intro a E
      refine zp E (zCk E rfl rfl rfl) ?_; clear E a; intro a E
      refine wpList_nil ?_
      refine zAf hK ?_; clear hK; clear K
      refine zCe E rfl ((by simp only [Lib.indexByte, noDash c.toNat]; rfl)) ?_
      refine wp_seq_k ?_; intro K hK
      refine zAb ?_
      refine zp E (zAd E rfl rfl) ?_; clear E a; intro a E
      refine wpList_nil ?_
      refine zAf hK ?_; clear hK; clear K
      refine wp_ret ?_
      iterate 2 (refine zAy ?_; clear hK; clear K)
      refine sc_ret ?_
      refine zCj ?_
      refine zAy ?_
      refine zCj ?_
      refine zAy ?_; clear hK; clear K
      refine sc_ret ?_
      refine zCj ?_
      refine ret1 E rfl rfl ?_
      exact ⟨_, rfl, _, rfl, by rw [dotB_iff]; omega, S.tr⟩
theorem crune_ret (c : UInt8) (As : List zAw) (w0 : World) (H : Hp w0 As) :
    Ret Tryz.prog 91 #[str [46, 95, 45], .int .i32 c.toNat] w0 fun u w' => u = .bool (dotB c) ∧ Trs w0 w' As As := by
  have S := St.begin H
  refine zCl 9 Tryz.func91 rfl rfl (by decide) ?_; intro a E
  refine wp_seq_k ?_; intro K hK
  refine zAb ?_
  refine zp E (zAd E rfl rfl) ?_; clear E a; intro a E
  refine wpList_nil ?_
  refine zAf hK ?_; clear hK; clear K
  refine wp_seq_k ?_; intro K hK
  refine zAb ?_
  iterate 2 (refine zp E (zAe E rfl rfl) ?_; clear E a; intro a E)
  refine zAp E rfl rfl (by decide) rfl Tryz.func114 rfl (by kernel_rfl) rfl (irune_ret c _ _ S.hp) ?_
  rintro v7 w ⟨i, rfl, hi, hT⟩; clear E a; intro a E
  have S := S.all hT
  refine zp E (zDy E rfl rfl rfl) ?_; clear E a; intro a E
  refine zp E (zAd E rfl rfl) ?_; clear E a; intro a E
  refine wpList_nil ?_
  refine zAf hK ?_; clear hK; clear K
  refine wp_ret ?_
  refine ret1 E rfl rfl ?_
  exact ⟨_, rfl, by congr 1; rw [Bool.eq_iff_iff, decide_eq_true_eq]; exact hi, S.tr⟩
end Go.Proofs.YtbogecljkaimdaaGreatDoor
namespace Go.Proofs.YtbogecljkaimdaaGreatDoor
open Go.Sl
set_option maxRecDepth 10000
theorem zIi (l : List UInt8) (hl : l.length ≤ 140737488355328) (As : List zAw) (w0 : World) (H : Hp w0 As) :
    Ret Tryz.prog 48 #[str l] w0 fun u w' => u = .bool (zFj l) ∧ Trs w0 w' As As := by
  have S := St.begin H
  refine zCu 49 Tryz.func48 rfl rfl (by decide) ?_; intro a E
  refine wp_seq_k ?_; intro K hK
  refine zAb ?_
  refine zp E (zAd E rfl rfl) ?_; clear E a; intro a E
  refine wpList_nil ?_
  refine zAf hK ?_; clear hK; clear K
  iterate 2 (refine wp_seq_k ?_; intro K hK)
  refine zAb ?_
  refine zp E (zAe E rfl rfl) ?_; clear E a; intro a E
  refine zp E (by first | exact zBu E rfl rfl rfl | exact zAx E rfl rfl rfl | exact zAq E rfl rfl rfl) ?_; clear E a; intro a E
  refine zp E (zAe E rfl rfl) ?_; clear E a; intro a E
  refine wpList_nil ?_
  refine zAf hK ?_; clear hK; clear K
  refine wp_block ?_
  refine wp_loop_ghost (fun (m : Nat) (a : Act) (w' : World) => ∃ i : Nat, m = l.length - i ∧ i ≤ l.length ∧ (∀ k, ∀ hk : k < l.length, k < i → okAt l k hk) ∧ St w0 As w' As ∧ Fr a 49 [(0, str l), (7, .int .i64 l.length), (8, .int .i64 i)]) (l.length) ?_ ?_
  · exact ⟨0, by omega, by omega, by intro k _ h; omega, S, E.keep (zAa rfl (zAa rfl (zAa rfl zAm)))⟩
  clear E; clear a; (try clear S); rintro m a w ⟨i, rfl, hi, hok, S, E⟩
  refine wp_seq_k ?_; intro K hK
  refine zAb ?_
  refine zp E (zCk E rfl rfl rfl) ?_; clear E a; intro a E
  refine wpList_nil ?_
  refine zAf hK ?_; clear hK; clear K
  refine wp_seq_k ?_; intro K hK
  refine zBh E rfl (fun hb => ?_) (fun hb => ?_)
  · replace hb := Nrm.nrm hb
    refine wp_skip ?_
    refine zAf hK ?_; clear hK; clear K
    refine wp_seq_k ?_; intro K hK
    refine wp_block ?_
    refine wp_seq_k ?_; intro K hK
    have hil : i < l.length := by omega
    refine zAb ?_
    refine zp E (zAe E rfl rfl) ?_; clear E a; intro a E
    refine zp E (zAd E rfl rfl) ?_; clear E a; intro a E
    refine wpList_nil ?_
    refine zAf hK ?_; clear hK; clear K
    refine wp_seq_k ?_; intro K hK
    refine zAb ?_
    iterate 2 (refine zp E (zAe E rfl rfl) ?_; clear E a; intro a E)
    refine zp E (zCz (l := l) (i := i) E rfl rfl rfl rfl rfl hil) ?_; clear E a; intro a E
    refine zp E (zAd E rfl rfl) ?_; clear E a; intro a E
    refine wpList_nil ?_
    refine zAf hK ?_; clear hK; clear K
    refine wp_seq_k ?_; intro K hK
    obtain ⟨c, hc⟩ : ∃ c, c = l[i] := ⟨_, rfl⟩
    rw [← hc] at E
    refine zEc (fun (a : Act) (w' : World) => ∃ z, (z = true ↔ letB c = true) ∧ St w0 As w' As ∧ Fr a 49 [(0, str l), (3, .int .i64 i), (4, .int .u8 c.toNat), (5, .bool z), (7, .int .i64 l.length), (8, .int .i64 i)]) ?_ ?_
    · skip
      refine zAb ?_
      refine zp E (zAe E rfl rfl) ?_; clear E a; intro a E
      refine zp E (zDy E rfl rfl rfl) ?_; clear E a; intro a E
      refine zp E (zAe E rfl rfl) ?_; clear E a; intro a E
      refine zAr E (t := 16) rfl (fun hb16 => ?_) (fun hb16 => ?_)
      · have hb16n := hb16; replace hb16n := Nrm.nrm hb16n
        refine zy E hb16 (zAe E rfl rfl) ?_; clear E a; intro a E
        refine zy E hb16 (zDx E rfl rfl rfl) ?_; clear E a; intro a E
        refine zp E (zAk E rfl rfl hb16 rfl) ?_; clear E a; intro a E
        refine zp E (zAe E rfl rfl) ?_; clear E a; intro a E
        refine zAr E (t := 20) rfl (fun hb20 => ?_) (fun hb20 => ?_)
        · have hb20n := hb20; replace hb20n := Nrm.nrm hb20n
          iterate 3 (refine zn E hb20 ?_; clear E a; intro a E)
          iterate 2 (refine zu E ?_; clear E a; intro a E)
          refine zn E hb20 ?_; clear E a; intro a E
          refine zp E (zAk E rfl rfl hb20 rfl) ?_; clear E a; intro a E
          refine zp E (zAd E rfl rfl) ?_; clear E a; intro a E
          refine wpList_nil ?_
          refine zAv ?_
          exact ⟨_, by rw [zHg]; first | (simp only [decide_eq_true_eq]; omega) | (simp; omega) | omega, S, E.keep (zAa rfl (zAa rfl (zAa rfl (zAa rfl (zAa rfl (zAa rfl zAm))))))⟩
        · have hb20n := hb20; replace hb20n := Nrm.nrm hb20n
          refine zy E hb20 (zAe E rfl rfl) ?_; clear E a; intro a E
          refine zy E hb20 (zDy E rfl rfl rfl) ?_; clear E a; intro a E
          refine zy E hb20 (zAe E rfl rfl) ?_; clear E a; intro a E
          refine zAr E (t := 23) rfl (fun hb23 => ?_) (fun hb23 => ?_)
          · have hb23n := hb23; replace hb23n := Nrm.nrm hb23n
            refine zy E hb23 (zAe E rfl rfl) ?_; clear E a; intro a E
            refine zy E hb23 (zDx E rfl rfl rfl) ?_; clear E a; intro a E
            refine zy E hb20 (zAk E rfl rfl hb23 rfl) ?_; clear E a; intro a E
            refine zp E (zAi E rfl rfl hb20 rfl) ?_; clear E a; intro a E
            refine zp E (zAd E rfl rfl) ?_; clear E a; intro a E
            refine wpList_nil ?_
            refine zAv ?_
            exact ⟨_, by rw [zHg]; first | (simp only [decide_eq_true_eq]; omega) | (simp; omega) | omega, S, E.keep (zAa rfl (zAa rfl (zAa rfl (zAa rfl (zAa rfl (zAa rfl zAm))))))⟩
          · have hb23n := hb23; replace hb23n := Nrm.nrm hb23n
            iterate 2 (refine zn E hb23 ?_; clear E a; intro a E)
            refine zy E hb20 (zAi E rfl rfl hb23 rfl) ?_; clear E a; intro a E
            refine zp E (zAi E rfl rfl hb20 rfl) ?_; clear E a; intro a E
            refine zp E (zAd E rfl rfl) ?_; clear E a; intro a E
            refine wpList_nil ?_
            refine zAv ?_
            exact ⟨_, by rw [zHg]; first | (simp only [decide_eq_true_eq]; omega) | (simp; omega) | omega, S, E.keep (zAa rfl (zAa rfl (zAa rfl (zAa rfl (zAa rfl (zAa rfl zAm))))))⟩
      · have hb16n := hb16; replace hb16n := Nrm.nrm hb16n
        iterate 2 (refine zn E hb16 ?_; clear E a; intro a E)
        refine zp E (zAi E rfl rfl hb16 rfl) ?_; clear E a; intro a E
        refine zp E (zAe E rfl rfl) ?_; clear E a; intro a E
        refine zy E rfl (zAe E rfl rfl) ?_; clear E a; intro a E
        refine zy E rfl (zDy E rfl rfl rfl) ?_; clear E a; intro a E
        refine zy E rfl (zAe E rfl rfl) ?_; clear E a; intro a E
        refine zAr E (t := 23) rfl (fun hb23 => ?_) (fun hb23 => ?_)
        · have hb23n := hb23; replace hb23n := Nrm.nrm hb23n
          refine zy E hb23 (zAe E rfl rfl) ?_; clear E a; intro a E
          refine zy E hb23 (zDx E rfl rfl rfl) ?_; clear E a; intro a E
          refine zy E rfl (zAk E rfl rfl hb23 rfl) ?_; clear E a; intro a E
          refine zp E (zAi E rfl rfl rfl rfl) ?_; clear E a; intro a E
          refine zp E (zAd E rfl rfl) ?_; clear E a; intro a E
          refine wpList_nil ?_
          refine zAv ?_
          exact ⟨_, by rw [zHg]; first | (simp only [decide_eq_true_eq]; omega) | (simp; omega) | omega, S, E.keep (zAa rfl (zAa rfl (zAa rfl (zAa rfl (zAa rfl (zAa rfl zAm))))))⟩
        · have hb23n := hb23; replace hb23n := Nrm.nrm hb23n
          iterate 2 (refine zn E hb23 ?_; clear E a; intro a E)
          refine zy E rfl (zAi E rfl rfl hb23 rfl) ?_; clear E a; intro a E
          refine zp E (zAi E rfl rfl rfl rfl) ?_; clear E a; intro a E
          refine zp E (zAd E rfl rfl) ?_; clear E a; intro a E
          refine wpList_nil ?_
          refine zAv ?_
          exact ⟨_, by rw [zHg]; first | (simp only [decide_eq_true_eq]; omega) | (simp; omega) | omega, S, E.keep (zAa rfl (zAa rfl (zAa rfl (zAa rfl (zAa rfl (zAa rfl zAm))))))⟩
    · clear E S a; intro a w J; obtain ⟨z, hz, S, E⟩ := J
      obtain rfl : z = letB c := (by rw [Bool.eq_iff_iff]; exact hz)
      refine zAf hK ?_; clear hK; clear K
      refine wp_seq_k ?_; intro K hK
      refine zAb ?_
      refine zp E (zAe E rfl rfl) ?_; clear E a; intro a E
      refine zp E (zDe E rfl rfl) ?_; clear E a; intro a E
      refine zp E (zAe E rfl rfl) ?_; clear E a; intro a E
      refine zAr E (t := 30) rfl (fun hb30 => ?_) (fun hb30 => ?_)
      · have hb30n := hb30; replace hb30n := Nrm.nrm hb30n
        refine zy E hb30 (zAe E rfl rfl) ?_; clear E a; intro a E
        refine zy E hb30 (by first | exact zCc E rfl rfl rfl | exact zAs E rfl rfl rfl rfl | exact zBb E rfl rfl rfl rfl | exact zAt E rfl rfl rfl) ?_; clear E a; intro a E
        refine zy E hb30 (zAe E rfl rfl) ?_; clear E a; intro a E
        refine zAr E (t := 33) rfl (fun hb33 => ?_) (fun hb33 => ?_)
        · have hb33n := hb33; replace hb33n := Nrm.nrm hb33n
          iterate 4 (refine zn E hb33 ?_; clear E a; intro a E)
          refine zy E hb30 (zAk E rfl rfl hb33 rfl) ?_; clear E a; intro a E
          refine zp E (zAk E rfl rfl hb30 rfl) ?_; clear E a; intro a E
          refine wpList_nil ?_
          refine zAf hK ?_; clear hK; clear K
          refine zCe E rfl rfl ?_
          refine wp_seq_k ?_; intro K hK
          refine zAb ?_
          refine zp E (zAd E rfl rfl) ?_; clear E a; intro a E
          refine wpList_nil ?_
          refine zAf hK ?_; clear hK; clear K
          refine wp_ret ?_
          refine zCj ?_
          refine zAy ?_; clear hK; clear K
          refine zAy ?_
          refine zCj ?_
          refine zAy ?_; clear hK; clear K
          refine ret1 E rfl rfl ?_
          exact ⟨_, rfl, by congr 1; exact (part_no hil (by rw [← hc]; simpa using hb30) (by rw [← hc]; first | exact .inl (by omega) | exact .inr (by simpa using hb))).symm, S.tr⟩
        · have hb33n := hb33; replace hb33n := Nrm.nrm hb33n
          refine zy E hb33 (zAe E rfl rfl) ?_; clear E a; intro a E
          refine zy E hb33 (zBg E rfl rfl rfl rfl (w32c _)) ?_; clear E a; intro a E
          refine zBx E rfl rfl rfl rfl hb33 ?_; refine zCo E rfl (by decide) rfl Tryz.func91 rfl (by kernel_rfl) rfl (crune_ret c _ _ S.hp) ?_
          rintro v36 w ⟨rfl, hT⟩; clear E a; intro a E
          have S := S.all hT
          refine zy E hb33 (zDe E rfl rfl) ?_; clear E a; intro a E
          refine zy E hb30 (zAi E rfl rfl hb33 rfl) ?_; clear E a; intro a E
          refine zp E (zAk E rfl rfl hb30 rfl) ?_; clear E a; intro a E
          refine wpList_nil ?_
          refine zAf hK ?_; clear hK; clear K
          refine zBh E rfl (fun hb => ?_) (fun hb => ?_)
          · replace hb := Nrm.nrm hb
            refine wp_seq_k ?_; intro K hK
            refine zAb ?_
            refine zp E (zAd E rfl rfl) ?_; clear E a; intro a E
            refine wpList_nil ?_
            refine zAf hK ?_; clear hK; clear K
            refine wp_ret ?_
            refine zCj ?_
            refine zAy ?_; clear hK; clear K
            refine zAy ?_
            refine zCj ?_
            refine zAy ?_; clear hK; clear K
            refine ret1 E rfl rfl ?_
            exact ⟨_, rfl, by congr 1; exact (part_no hil (by rw [← hc]; simpa using hb30) (by rw [← hc]; first | exact .inl (by omega) | exact .inr (by simpa using hb))).symm, S.tr⟩
          · replace hb := Nrm.nrm hb
            refine wp_skip ?_
            refine zBe ?_
            refine zAf hK ?_; clear hK; clear K
            refine zAb ?_
            refine zp E (zBt E rfl rfl rfl (by first | exact zCh (y := 1) (by omega) | exact w_in (by omega) | exact zBw (by omega) | exact rfl)) ?_; clear E a; intro a E
            refine zp E (zAe E rfl rfl) ?_; clear E a; intro a E
            refine wpList_nil ?_
            refine zBj ?_
            exact ⟨_, by omega, i + 1, rfl, by omega, ok_more hok hil (by show letB l[i] = true ∨ _; rw [← hc]; first | exact .inl (by simpa using hb30) | exact .inr ⟨by omega, by simpa using hb⟩), S, E.keep (zAa rfl (zAa rfl (zAa rfl zAm)))⟩
      · have hb30n := hb30; replace hb30n := Nrm.nrm hb30n
        iterate 3 (refine zn E hb30 ?_; clear E a; intro a E)
        iterate 4 (refine zu E ?_; clear E a; intro a E)
        refine zn E hb30 ?_; clear E a; intro a E
        refine zp E (zAi E rfl rfl hb30 rfl) ?_; clear E a; intro a E
        refine wpList_nil ?_
        refine zAf hK ?_; clear hK; clear K
        refine zDd E rfl rfl ?_
        refine wp_skip ?_
        refine zBe ?_
        refine zAf hK ?_; clear hK; clear K
        refine zAb ?_
        refine zp E (zBt E rfl rfl rfl (by first | exact zCh (y := 1) (by omega) | exact w_in (by omega) | exact zBw (by omega) | exact rfl)) ?_; clear E a; intro a E
        refine zp E (zAe E rfl rfl) ?_; clear E a; intro a E
        refine wpList_nil ?_
        refine zBj ?_
        exact ⟨_, by omega, i + 1, rfl, by omega, ok_more hok hil (by show letB l[i] = true ∨ _; rw [← hc]; first | exact .inl (by simpa using hb30) | exact .inr ⟨by omega, by simpa using hb⟩), S, E.keep (zAa rfl (zAa rfl (zAa rfl zAm)))⟩
  · replace hb := Nrm.nrm hb
    refine wp_exit ?_
    refine zBa ?_; clear hK; clear K
    refine zBa ?_
    refine zCg ?_
    refine zAf hK ?_; clear hK; clear K
    refine wp_seq_k ?_; intro K hK
    refine zAb ?_
    refine zp E (zAe E rfl rfl) ?_; clear E a; intro a E
    refine zp E (by first | exact zBu E rfl rfl rfl | exact zAx E rfl rfl rfl | exact zAq E rfl rfl rfl) ?_; clear E a; intro a E
    refine zp E (zDy E rfl rfl rfl) ?_; clear E a; intro a E
    refine zp E (zAe E rfl rfl) ?_; clear E a; intro a E
    refine zAr E (t := 44) rfl (fun hb44 => ?_) (fun hb44 => ?_)
    · have hb44n := hb44; replace hb44n := Nrm.nrm hb44n
      refine zy E hb44 (zAe E rfl rfl) ?_; clear E a; intro a E
      refine zy E hb44 (by first | exact zBu E rfl rfl rfl | exact zAx E rfl rfl rfl | exact zAq E rfl rfl rfl) ?_; clear E a; intro a E
      refine zy E hb44 (zDx E rfl rfl rfl) ?_; clear E a; intro a E
      refine zp E (zAk E rfl rfl hb44 rfl) ?_; clear E a; intro a E
      refine zp E (zAd E rfl rfl) ?_; clear E a; intro a E
      refine wpList_nil ?_
      refine zAf hK ?_; clear hK; clear K
      refine wp_ret ?_
      refine ret1 E rfl rfl ?_
      exact ⟨_, rfl, by congr 1; rw [Bool.eq_iff_iff, part_end (fun k hk => hok k hk (by omega))]; simp; omega, S.tr⟩
    · have hb44n := hb44; replace hb44n := Nrm.nrm hb44n
      iterate 3 (refine zn E hb44 ?_; clear E a; intro a E)
      refine zp E (zAi E rfl rfl hb44 rfl) ?_; clear E a; intro a E
      refine zp E (zAd E rfl rfl) ?_; clear E a; intro a E
      refine wpList_nil ?_
      refine zAf hK ?_; clear hK; clear K
      refine wp_ret ?_
      refine ret1 E rfl rfl ?_
      exact ⟨_, rfl, by congr 1; rw [Bool.eq_iff_iff, part_end (fun k hk => hok k hk (by omega))]; simp; omega, S.tr⟩
theorem scount_ret (l : List UInt8) (c : UInt8) (As : List zAw) (w0 : World) (H : Hp w0 As) :
    Ret Tryz.prog 139 #[str l, str [c]] w0 fun u w' => u = .int .i64 (l.count c : Nat) ∧ Trs w0 w' As As := by
  have S := St.begin H
  refine zCl 34 Tryz.func139 rfl rfl (by decide) ?_; intro a E
  refine wp_seq_k ?_; intro K hK
  refine zAb ?_
  refine zp E (zAd E rfl rfl) ?_; clear E a; intro a E
  refine wpList_nil ?_
  refine zAf hK ?_; clear hK; clear K
  iterate 2 (refine wp_seq_k ?_; intro K hK)
  refine zAb ?_
  refine zp E (zAe E rfl rfl) ?_; clear E a; intro a E
  refine zp E (by first | exact zBu E rfl rfl rfl | exact zAx E rfl rfl rfl | exact zAq E rfl rfl rfl) ?_; clear E a; intro a E
  refine zp E (by first | exact zCc E rfl rfl rfl | exact zAs E rfl rfl rfl rfl | exact zBb E rfl rfl rfl rfl | exact zAt E rfl rfl rfl) ?_; clear E a; intro a E
  refine wpList_nil ?_
  refine zAf hK ?_; clear hK; clear K
  refine zDd E rfl ((by rfl)) ?_
  refine wp_skip ?_
  refine zAf hK ?_; clear hK; clear K
  iterate 2 (refine wp_seq_k ?_; intro K hK)
  refine zAb ?_
  refine zp E (zAe E rfl rfl) ?_; clear E a; intro a E
  refine zp E (by first | exact zBu E rfl rfl rfl | exact zAx E rfl rfl rfl | exact zAq E rfl rfl rfl) ?_; clear E a; intro a E
  refine zp E (by first | exact zCc E rfl rfl rfl | exact zAs E rfl rfl rfl rfl | exact zBb E rfl rfl rfl rfl | exact zAt E rfl rfl rfl) ?_; clear E a; intro a E
  refine wpList_nil ?_
  refine zAf hK ?_; clear hK; clear K
  refine zCe E rfl ((by rfl)) ?_
  refine wp_seq_k ?_; intro K hK
  refine zAb ?_
  iterate 2 (refine zp E (zAe E rfl rfl) ?_; clear E a; intro a E)
  refine zp E (zCz (l := [c]) (i := 0) E rfl rfl rfl rfl rfl (Nat.le_of_ble_eq_true rfl)) ?_; clear E a; intro a E
  refine zAo rfl (zGj E (rn_cbyte (l := l) (c := c) E rfl Tryz.func144 (by kernel_rfl) (by kernel_rfl) (by kernel_rfl) (by kernel_rfl) rfl rfl) rfl (by decide) ?_); clear E a; intro a E
  refine zp E (zAd E rfl rfl) ?_; clear E a; intro a E
  refine wpList_nil ?_
  refine zAf hK ?_; clear hK; clear K
  refine wp_ret ?_
  refine zAy ?_; clear hK; clear K
  refine ret1 E rfl rfl ?_
  exact ⟨_, rfl, rfl, S.tr⟩
theorem strs_set (dn : List (List UInt8)) (n i : Nat) (p : List UInt8) (h : dn.length = i) (hi : i < n) :
    (dn.map str ++ List.replicate (n - i) (str [])).set i (str p) = (dn ++ [p]).map str ++ List.replicate (n - (i + 1)) (str []) := by
  subst h
  rw [List.set_append_right _ _ (by simp), show n - dn.length = (n - (dn.length + 1)) + 1 by omega, List.replicate_succ]
  simp
theorem slindex_ret (l : List UInt8) (c : UInt8) (As : List zAw) (w0 : World) (H : Hp w0 As) :
    Ret Tryz.prog 145 #[str l, str [c]] w0 fun u w' => u = .int .i64 (Lib.indexByte l c) ∧ Trs w0 w' As As := by
  have S := St.begin H
  refine zCl 143 Tryz.func145 rfl rfl (by decide) ?_; intro a E
  refine wp_seq_k ?_; intro K hK
  refine zAb ?_
  refine zp E (zAd E rfl rfl) ?_; clear E a; intro a E
  refine wpList_nil ?_
  refine zAf hK ?_; clear hK; clear K
  refine wp_seq_k ?_; intro K hK
  refine zAb ?_
  refine zp E (zAe E rfl rfl) ?_; clear E a; intro a E
  refine zp E (by first | exact zBu E rfl rfl rfl | exact zAx E rfl rfl rfl | exact zAq E rfl rfl rfl) ?_; clear E a; intro a E
  refine zp E (zAd E rfl rfl) ?_; clear E a; intro a E
  refine wpList_nil ?_
  refine zAf hK ?_; clear hK; clear K
  refine wp_seq_k ?_; intro K hK
  refine wp_block ?_
  refine wp_seq_k ?_; intro K hK
  refine zAb ?_
  refine zp E (zAe E rfl rfl) ?_; clear E a; intro a E
  refine zp E (by first | exact zCc E rfl rfl rfl | exact zAs E rfl rfl rfl rfl | exact zBb E rfl rfl rfl rfl | exact zAt E rfl rfl rfl) ?_; clear E a; intro a E
  refine zp E (zAe E rfl rfl) ?_; clear E a; intro a E
  refine zJt E (t := 19) rfl ((by rfl)) (fun hb19 => ?_)
  iterate 2 (refine zy E hb19 (zAe E rfl rfl) ?_; clear E a; intro a E)
  refine zy E hb19 (by first | exact zCc E rfl rfl rfl | exact zAs E rfl rfl rfl rfl | exact zBb E rfl rfl rfl rfl | exact zAt E rfl rfl rfl) ?_; clear E a; intro a E
  refine zp E (zAi E rfl rfl hb19 rfl) ?_; clear E a; intro a E
  refine zp E (zAd E rfl rfl) ?_; clear E a; intro a E
  refine wpList_nil ?_
  refine zAf hK ?_; clear hK; clear K
  refine zBh E rfl (fun hb => ?_) (fun hb => ?_)
  · replace hb := Nrm.nrm hb
    refine wp_seq_k ?_; intro K hK
    refine zAb ?_
    refine zp E (zAd E rfl rfl) ?_; clear E a; intro a E
    refine wpList_nil ?_
    refine zAf hK ?_; clear hK; clear K
    refine wp_ret ?_
    refine zCj ?_
    refine zAy ?_; clear hK; clear K
    refine ret1 E rfl rfl ?_
    exact ⟨_, rfl, by rw [← hb]; simp [Lib.indexByte], S.tr⟩
  · replace hb := Nrm.nrm hb
    refine wp_seq_k ?_; intro K hK
    refine zAb ?_
    refine zp E (zAe E rfl rfl) ?_; clear E a; intro a E
    refine zp E (by first | exact zCc E rfl rfl rfl | exact zAs E rfl rfl rfl rfl | exact zBb E rfl rfl rfl rfl | exact zAt E rfl rfl rfl) ?_; clear E a; intro a E
    refine zp E (zAd E rfl rfl) ?_; clear E a; intro a E
    refine wpList_nil ?_
    refine zAf hK ?_; clear hK; clear K
    refine zCe E rfl ((by rfl)) ?_
    refine wp_seq_k ?_; intro K hK
    refine zAb ?_
    iterate 2 (refine zp E (zAe E rfl rfl) ?_; clear E a; intro a E)
    refine zp E (zCz (l := [c]) (i := 0) E rfl rfl rfl rfl rfl (Nat.le_of_ble_eq_true rfl)) ?_; clear E a; intro a E
    refine zAp E rfl rfl (by decide) rfl Tryz.func131 rfl (by kernel_rfl) rfl (zKc l c _ _ S.hp) ?_
    rintro v30 w ⟨rfl, hT⟩; clear E a; intro a E
    have S := S.all hT
    refine zp E (zAd E rfl rfl) ?_; clear E a; intro a E
    refine wpList_nil ?_
    refine zAf hK ?_; clear hK; clear K
    refine wp_ret ?_
    refine zCj ?_
    refine zAy ?_; clear hK; clear K
    refine ret1 E rfl rfl ?_
    exact ⟨_, rfl, rfl, S.tr⟩
theorem sindex_ret (l : List UInt8) (c : UInt8) (As : List zAw) (w0 : World) (H : Hp w0 As) :
    Ret Tryz.prog 140 #[str l, str [c]] w0 fun u w' => u = .int .i64 (Lib.indexByte l c) ∧ Trs w0 w' As As := by
  have S := St.begin H
  refine zCl 8 Tryz.func140 rfl rfl (by decide) ?_; intro a E
  refine wp_seq_k ?_; intro K hK
  refine zAb ?_
  refine zp E (zAd E rfl rfl) ?_; clear E a; intro a E
  refine wpList_nil ?_
  refine zAf hK ?_; clear hK; clear K
  refine wp_seq_k ?_; intro K hK
  refine zAb ?_
  iterate 2 (refine zp E (zAe E rfl rfl) ?_; clear E a; intro a E)
  refine zAp E rfl rfl (by decide) rfl Tryz.func145 rfl (by kernel_rfl) rfl (slindex_ret l c _ _ S.hp) ?_
  rintro v7 w ⟨rfl, hT⟩; clear E a; intro a E
  have S := S.all hT
  refine zp E (zAd E rfl rfl) ?_; clear E a; intro a E
  refine wpList_nil ?_
  refine zAf hK ?_; clear hK; clear K
  refine wp_ret ?_
  refine ret1 E rfl rfl ?_
  exact ⟨_, rfl, rfl, S.tr⟩
theorem gensplit_ret (l : List UInt8) (hl : l.length ≤ 1100000) (As : List zAw) (w0 : World) (H : Hp w0 As) :
    Ret Tryz.prog 132 #[str l, str [47], .int .i64 0, .int .i64 (-1)] w0 fun u w' => ∃ g, u = .slice (some ⟨g, 0, none⟩) (zDb l).length (zDb l).length ∧ Trs w0 w' As ([(g, cel ((zDb l).map str) 9)] :: As) := by
  have S := St.begin H
  have hcl : l.count 47 ≤ l.length := List.count_le_length
  have hpl := zFi l
  obtain ⟨n, hn⟩ : ∃ n, n = l.count 47 + 1 := ⟨_, rfl⟩
  refine enter4 66 Tryz.func132 rfl rfl (by decide) ?_; intro a E
  refine wp_seq_k ?_; intro K hK
  refine zAb ?_
  refine zp E (zAd E rfl rfl) ?_; clear E a; intro a E
  refine wpList_nil ?_
  refine zAf hK ?_; clear hK; clear K
  iterate 2 (refine wp_seq_k ?_; intro K hK)
  refine zAb ?_
  refine zp E (zAe E rfl rfl) ?_; clear E a; intro a E
  refine zp E (by first | exact zCc E rfl rfl rfl | exact zAs E rfl rfl rfl rfl | exact zBb E rfl rfl rfl rfl | exact zAt E rfl rfl rfl) ?_; clear E a; intro a E
  refine wpList_nil ?_
  refine zAf hK ?_; clear hK; clear K
  refine zDd E rfl ((by rfl)) ?_
  refine wp_skip ?_
  refine zAf hK ?_; clear hK; clear K
  iterate 2 (refine wp_seq_k ?_; intro K hK)
  refine zAb ?_
  refine zp E (zAe E rfl rfl) ?_; clear E a; intro a E
  refine zp E (by first | exact zCc E rfl rfl rfl | exact zAs E rfl rfl rfl rfl | exact zBb E rfl rfl rfl rfl | exact zAt E rfl rfl rfl) ?_; clear E a; intro a E
  refine wpList_nil ?_
  refine zAf hK ?_; clear hK; clear K
  refine zDd E rfl ((by rfl)) ?_
  refine wp_skip ?_
  refine zAf hK ?_; clear hK; clear K
  iterate 2 (refine wp_seq_k ?_; intro K hK)
  refine zAb ?_
  refine zp E (zAe E rfl rfl) ?_; clear E a; intro a E
  refine zp E (zCk E rfl rfl rfl) ?_; clear E a; intro a E
  refine wpList_nil ?_
  refine zAf hK ?_; clear hK; clear K
  refine zCe E rfl ((by rfl)) ?_
  refine zAb ?_
  iterate 2 (refine zp E (zAe E rfl rfl) ?_; clear E a; intro a E)
  refine zAp E rfl rfl (by decide) rfl Tryz.func139 rfl (by kernel_rfl) rfl (scount_ret l 47 _ _ S.hp) ?_
  rintro v23 w ⟨rfl, hT⟩; clear E a; intro a E
  have S := S.all hT
  refine zp E (zBt E rfl rfl rfl (by first | exact zCh (y := 1) (by omega) | exact w_in (by omega) | exact zBw (by omega) | exact rfl)) ?_; clear E a; intro a E
  refine zp E (zAd E rfl rfl) ?_; clear E a; intro a E
  refine wpList_nil ?_
  refine zAf hK ?_; clear hK; clear K
  refine wp_seq_k ?_; intro K hK
  refine zAb ?_
  iterate 2 (refine zp E (zAe E rfl rfl) ?_; clear E a; intro a E)
  refine zp E (by first | exact zBu E rfl rfl rfl | exact zAx E rfl rfl rfl | exact zAq E rfl rfl rfl) ?_; clear E a; intro a E
  refine zp E (zBt E rfl rfl rfl (by first | exact zCh (y := 1) (by omega) | exact w_in (by omega) | exact zBw (by omega) | exact rfl)) ?_; clear E a; intro a E
  refine zp E (rn_min E rfl rfl rfl) ?_; clear E a; intro a E
  rw [show min (((l.count 47 + 1 : Nat) : Int)) (((l.length + 1 : Nat) : Int)) = (n : Int) by omega] at E
  refine zp E (zAd E rfl rfl) ?_; clear E a; intro a E
  refine wpList_nil ?_
  refine zAf hK ?_; clear hK; clear K
  refine wp_seq_k ?_; intro K hK
  refine zAb ?_
  refine zp E (zAe E rfl rfl) ?_; clear E a; intro a E
  refine zAo rfl (zJh (by' := 16) E S rfl rfl (by decide) rfl rfl rfl rfl rfl rfl rfl rfl rfl rfl rfl (show 16 * n ≤ _ by omega) (by simp only [maxLen]; omega) ?_); clear E S a; intro a w g31 E S
  refine zp E (zAd E rfl rfl) ?_; clear E a; intro a E
  refine wpList_nil ?_
  refine zAf hK ?_; clear hK; clear K
  refine wp_seq_k ?_; intro K hK
  replace E := E.keep (e' := [(0, _), (1, _), (2, _), (3, _), (8, _), (9, _)]) (zAa rfl (zAa rfl (zAa rfl (zAa rfl (zAa rfl (zAa rfl (zAm)))))))
  have h1n : 1 ≤ n := by omega
  refine zAb ?_
  refine zp E (zAe E rfl rfl) ?_; clear E a; intro a E
  refine zp E (zEe E rfl rfl rfl (by first | exact zFu (y := 1) (by omega) (by omega) | exact w_in (by omega) | exact zBw (by omega) | exact rfl)) ?_; clear E a; intro a E
  refine zp E (zAd E rfl rfl) ?_; clear E a; intro a E
  refine wpList_nil ?_
  refine zAf hK ?_; clear hK; clear K
  refine wp_seq_k ?_; intro K hK
  refine zAb ?_
  refine zp E (zAd E rfl rfl) ?_; clear E a; intro a E
  refine wpList_nil ?_
  refine zAf hK ?_; clear hK; clear K
  refine wp_seq_k ?_; intro K hK
  refine wp_block ?_
  refine wp_loop_ghost (fun (m : Nat) (a : Act) (w' : World) => ∃ (i : Nat) (cur : List UInt8) (dn : List (List UInt8)), m = n - i ∧ i + 1 ≤ n ∧ dn.length = i ∧ dn ++ zDb cur = zDb l ∧ cur.length ≤ l.length ∧ St w0 As w' ([(g31, cel (dn.map str ++ List.replicate (n - i) (str [])) 9)] :: As) ∧ Fr a 66 [(0, str cur), (1, str [47]), (2, .int .i64 0), (3, .int .i64 ((n - 1 : Nat) : Int)), (9, .slice (some ⟨g31, 0, none⟩) n n), (10, .int .i64 i)]) (n) ?_ ?_
  · exact ⟨0, l, [], by omega, by omega, rfl, rfl, by omega, S, E.keep (zAa rfl (zAa rfl (zAa rfl (zAa rfl (zAa rfl (zAa rfl zAm))))))⟩
  clear E; clear a; (try clear S); rintro m a w ⟨i, cur, dn, rfl, hi, hdn, hpc, hcur, S, E⟩
  iterate 2 (refine wp_seq_k ?_; intro K hK)
  refine zAb ?_
  iterate 2 (refine zp E (zAe E rfl rfl) ?_; clear E a; intro a E)
  refine zp E (zCk E rfl rfl rfl) ?_; clear E a; intro a E
  refine wpList_nil ?_
  refine zAf hK ?_; clear hK; clear K
  refine zBh E rfl (fun hb => ?_) (fun hb => ?_)
  · replace hb := Nrm.nrm hb
    refine wp_skip ?_
    refine zAf hK ?_; clear hK; clear K
    refine wp_block ?_
    refine wp_seq_k ?_; intro K hK
    refine zAb ?_
    iterate 2 (refine zp E (zAe E rfl rfl) ?_; clear E a; intro a E)
    refine zAp E rfl rfl (by decide) rfl Tryz.func140 rfl (by kernel_rfl) rfl (sindex_ret cur 47 _ _ S.hp) ?_
    rintro v39 w ⟨rfl, hT⟩; clear E a; intro a E
    have S := S.all hT
    refine zp E (zAd E rfl rfl) ?_; clear E a; intro a E
    refine wpList_nil ?_
    refine zAf hK ?_; clear hK; clear K
    iterate 2 (refine wp_seq_k ?_; intro K hK)
    have hin : i < n - 1 := by omega
    have hcc := zFi cur
    have hall : dn.length + (zDb cur).length = n := by rw [← List.length_append, hpc]; omega
    obtain ⟨mm, hm, he, hat, h0, h1⟩ := (ibyte_cases cur 47).resolve_left (fun q => by omega)
    rw [he] at E
    refine zAb ?_
    refine zp E (zAe E rfl rfl) ?_; clear E a; intro a E
    refine zp E (zCk E rfl rfl rfl) ?_; clear E a; intro a E
    refine wpList_nil ?_
    refine zAf hK ?_; clear hK; clear K
    refine zDd E rfl ((by simp)) ?_
    refine wp_skip ?_
    refine zAf hK ?_; clear hK; clear K
    refine wp_seq_k ?_; intro K hK
    refine zAb ?_
    iterate 5 (refine zp E (zAe E rfl rfl) ?_; clear E a; intro a E)
    refine zp E (zBt E rfl rfl rfl (by first | exact wa1 (by omega) | exact w_in (by omega) | exact zBw (by omega) | exact rfl)) ?_; clear E a; intro a E
    refine zp E (rn_str_h (l := cur) (hi := mm) E rfl rfl rfl rfl rfl (by omega)) ?_; clear E a; intro a E
    refine zp E (by first | exact zBo E rfl rfl rfl rfl rfl rfl (by omega) | exact zBq E rfl rfl rfl rfl rfl rfl (by omega) | exact zBd E rfl rfl rfl rfl rfl rfl (by omega)) ?_; clear E a; intro a E
    refine zAo rfl (zBp E S rfl rfl rfl rfl rfl rfl (by repeat (first | exact pk1 | apply zAc)) (by simp; omega) ?_); clear E S a; intro a w E S; try dsimp only [List.set] at S
    refine wpList_nil ?_
    refine zAf hK ?_; clear hK; clear K
    refine wp_seq_k ?_; intro K hK
    refine zAb ?_
    iterate 3 (refine zp E (zAe E rfl rfl) ?_; clear E a; intro a E)
    refine zp E (by first | exact zBu E rfl rfl rfl | exact zAx E rfl rfl rfl | exact zAq E rfl rfl rfl) ?_; clear E a; intro a E
    refine zp E (zBt E rfl rfl rfl (wa1 (by simp; omega))) ?_; clear E a; intro a E
    refine zp E (rn_str_l (l := cur) (lo := mm + 1) E rfl rfl rfl rfl rfl (by omega)) ?_; clear E a; intro a E
    refine zp E (zAd E rfl rfl) ?_; clear E a; intro a E
    refine wpList_nil ?_
    refine zAf hK ?_; clear hK; clear K
    refine zAb ?_
    refine zp E (zAe E rfl rfl) ?_; clear E a; intro a E
    refine zp E (zBt E rfl rfl rfl (by first | exact zCh (y := 1) (by omega) | exact w_in (by omega) | exact zBw (by omega) | exact rfl)) ?_; clear E a; intro a E
    refine zp E (zAd E rfl rfl) ?_; clear E a; intro a E
    refine wpList_nil ?_
    refine zBe ?_
    refine zBj ?_
    rw [Nat.zero_add] at S
    rw [strs_set dn n i _ hdn (by omega)] at S
    exact ⟨_, by omega, i + 1, cur.drop (mm + 1), dn ++ [cur.take mm], rfl, by omega, by simp [hdn], by rw [List.append_assoc, ← hpc, zIp hm hat h0]; rfl, by rw [List.length_drop]; omega, S, E.keep (zAa rfl (zAa rfl (zAa rfl (zAa rfl (zAa rfl (zAa rfl zAm))))))⟩
  · replace hb := Nrm.nrm hb
    refine wp_exit ?_
    refine zBa ?_; clear hK; clear K
    refine zBa ?_
    refine zCg ?_
    refine zAf hK ?_; clear hK; clear K
    refine wp_seq_k ?_; intro K hK
    have hin : n = i + 1 := by omega
    have hcc := zFi cur
    have hall : dn.length + (zDb cur).length = n := by rw [← List.length_append, hpc]; omega
    have h1 := zKb (l := cur) (by omega)
    refine zAb ?_
    iterate 3 (refine zp E (zAe E rfl rfl) ?_; clear E a; intro a E)
    refine zp E (by first | exact zBo E rfl rfl rfl rfl rfl rfl (by omega) | exact zBq E rfl rfl rfl rfl rfl rfl (by omega) | exact zBd E rfl rfl rfl rfl rfl rfl (by omega)) ?_; clear E a; intro a E
    refine zAo rfl (zBp E S rfl rfl rfl rfl rfl rfl (by repeat (first | exact pk1 | apply zAc)) (by simp; omega) ?_); clear E S a; intro a w E S; try dsimp only [List.set] at S
    refine wpList_nil ?_
    refine zAf hK ?_; clear hK; clear K
    refine wp_seq_k ?_; intro K hK
    refine zAb ?_
    iterate 2 (refine zp E (zAe E rfl rfl) ?_; clear E a; intro a E)
    refine zp E (zBt E rfl rfl rfl (by first | exact zCh (y := 1) (by omega) | exact w_in (by omega) | exact zBw (by omega) | exact rfl)) ?_; clear E a; intro a E
    refine zp E (zGa (s := 1) E rfl rfl rfl rfl rfl rfl (by omega)) ?_; clear E a; intro a E
    refine zp E (zAd E rfl rfl) ?_; clear E a; intro a E
    refine wpList_nil ?_
    refine zAf hK ?_; clear hK; clear K
    refine wp_ret ?_
    refine ret1 E rfl rfl ?_
    rw [Nat.zero_add] at S
    rw [strs_set dn n i _ hdn (by omega)] at S
    rw [show n - (i + 1) = 0 by omega, List.replicate_zero, List.append_nil] at S
    rw [h1] at hpc
    rw [← hpc]
    exact ⟨_, rfl, g31, by simp [hdn, hin, sliced, Addr.add_lit], S.tr⟩
theorem split_ret (l : List UInt8) (hl : l.length ≤ 1100000) (As : List zAw) (w0 : World) (H : Hp w0 As) :
    Ret Tryz.prog 126 #[str l, str [47]] w0 fun u w' => ∃ g, u = .slice (some ⟨g, 0, none⟩) (zDb l).length (zDb l).length ∧ Trs w0 w' As ([(g, cel ((zDb l).map str) 9)] :: As) := by
  have S := St.begin H
  refine zCl 8 Tryz.func126 rfl rfl (by decide) ?_; intro a E
  refine wp_seq_k ?_; intro K hK
  refine zAb ?_
  refine zp E (zAd E rfl rfl) ?_; clear E a; intro a E
  refine wpList_nil ?_
  refine zAf hK ?_; clear hK; clear K
  refine wp_seq_k ?_; intro K hK
  refine zAb ?_
  iterate 2 (refine zp E (zAe E rfl rfl) ?_; clear E a; intro a E)
  refine zAp E rfl rfl (by decide) rfl Tryz.func132 rfl (by kernel_rfl) rfl (gensplit_ret l hl _ _ S.hp) ?_
  rintro v7 w ⟨g, rfl, hT⟩; clear E a; intro a E
  have S := S.all hT
  refine zp E (zAd E rfl rfl) ?_; clear E a; intro a E
  refine wpList_nil ?_
  refine zAf hK ?_; clear hK; clear K
  refine wp_ret ?_
  refine ret1 E rfl rfl ?_
  exact ⟨_, rfl, g, rfl, S.tr⟩
end Go.Proofs.YtbogecljkaimdaaGreatDoor
namespace Go.Sl
theorem valP_more {l : List UInt8} {i : Nat} (h : ∀ k, ∀ hk : k < l.length, k < i → 32 ≤ l[k].toNat ∧ l[k].toNat ≤ 126) (hi : i < l.length) (h1 : 32 ≤ l[i].toNat ∧ l[i].toNat ≤ 126) : ∀ k, ∀ hk : k < l.length, k < i + 1 → 32 ≤ l[k].toNat ∧ l[k].toNat ≤ 126 := by
  intro k hk hki
  by_cases e : k = i
  · subst e; exact h1
  · exact h k hk (by omega)
theorem blk_str {b : Nat} {ps : List (List UInt8)} {T : TypeId} {w : World} (hb : w.heap[b]? = some (cel (ps.map str) T)) {i : Nat} (h : i < ps.length) : w.cell? ⟨b, i, none⟩ = some (str ps[i]) :=
  zCw hb (by simp [h])
end Go.Sl
namespace Go.Proofs.YtbogecljkaimdaaGreatDoor
open Go.Sl
set_option maxRecDepth 10000
theorem vsign_ret (c : Nat) (As : List zAw) (w0 : World) (H : Hp w0 As) :
    Ret Tryz.prog 135 #[.int .i32 c] w0 fun u w' => ∃ z, u = .bool z ∧ (z = true ↔ c < 32 ∨ 126 < c) ∧ Trs w0 w' As As := by
  have S := St.begin H
  refine zCu 9 Tryz.func135 rfl rfl (by decide) ?_; intro a E
  refine wp_seq_k ?_; intro K hK
  refine zAb ?_
  refine zp E (zAd E rfl rfl) ?_; clear E a; intro a E
  refine wpList_nil ?_
  refine zAf hK ?_; clear hK; clear K
  refine wp_seq_k ?_; intro K hK
  refine zAb ?_
  refine zp E (zAe E rfl rfl) ?_; clear E a; intro a E
  refine zp E (zCk E rfl rfl rfl) ?_; clear E a; intro a E
  refine zp E (zAe E rfl rfl) ?_; clear E a; intro a E
  refine zAr E (t := 5) rfl (fun hb5 => ?_) (fun hb5 => ?_)
  · have hb5n := hb5; replace hb5n := Nrm.nrm hb5n
    iterate 2 (refine zn E hb5 ?_; clear E a; intro a E)
    refine zp E (zAk E rfl rfl hb5 rfl) ?_; clear E a; intro a E
    refine zp E (zAd E rfl rfl) ?_; clear E a; intro a E
    refine wpList_nil ?_
    refine zAf hK ?_; clear hK; clear K
    refine wp_ret ?_
    refine ret1 E rfl rfl ?_
    exact ⟨_, rfl, _, rfl, by first | (simp only [decide_eq_true_eq]; omega) | (simp; omega), S.tr⟩
  · have hb5n := hb5; replace hb5n := Nrm.nrm hb5n
    refine zy E hb5 (zAe E rfl rfl) ?_; clear E a; intro a E
    refine zy E hb5 (zDt E rfl rfl rfl) ?_; clear E a; intro a E
    refine zp E (zAi E rfl rfl hb5 rfl) ?_; clear E a; intro a E
    refine zp E (zAd E rfl rfl) ?_; clear E a; intro a E
    refine wpList_nil ?_
    refine zAf hK ?_; clear hK; clear K
    refine wp_ret ?_
    refine ret1 E rfl rfl ?_
    exact ⟨_, rfl, _, rfl, by first | (simp only [decide_eq_true_eq]; omega) | (simp; omega), S.tr⟩
theorem ifunc_ret (l : List UInt8) (hl : l.length ≤ 140737488355328) (As : List zAw) (w0 : World) (H : Hp w0 As) :
    Ret Tryz.prog 146 #[str l, .func (.func 135) #[] #[], .bool true] w0 fun u w' => ∃ i : Int, u = .int .i64 i ∧ (0 ≤ i ↔ ¬ valP l) ∧ Trs w0 w' As As := by
  have S := St.begin H
  refine zFy 21 Tryz.func146 rfl rfl (by decide) ?_; intro a E
  refine wp_seq_k ?_; intro K hK
  refine zAb ?_
  refine zp E (zAd E rfl rfl) ?_; clear E a; intro a E
  refine wpList_nil ?_
  refine zAf hK ?_; clear hK; clear K
  iterate 2 (refine wp_seq_k ?_; intro K hK)
  refine zAb ?_
  refine zp E (zAe E rfl rfl) ?_; clear E a; intro a E
  refine zAo rfl (wp_rangeS E S rfl rfl (by decide) rfl rfl ?_); clear E S a; intro a w b10 E S
  refine wpList_nil ?_
  refine zAf hK ?_; clear hK; clear K
  refine wp_block ?_
  refine wp_loop_ghost (fun (m : Nat) (a : Act) (w' : World) => ∃ i : Nat, m = l.length - i ∧ i ≤ l.length ∧ (∀ k, ∀ hk : k < l.length, k < i → 32 ≤ l[k].toNat ∧ l[k].toNat ≤ 126) ∧ St w0 As w' ([(b10, .stringIter ⟨l.toArray⟩ i)] :: As) ∧ Fr a 21 [(0, str l), (1, .func (.func 135) #[] #[]), (2, .bool true), (10, ptr b10)]) (l.length) ?_ ?_
  · exact ⟨0, by omega, by omega, by intro k _ h; omega, S, E.keep (zAa rfl (zAa rfl (zAa rfl (zAa rfl zAm))))⟩
  clear E; clear a; (try clear S); rintro m a w ⟨i, rfl, hi, hok, S, E⟩
  refine wp_seq_k ?_; intro K hK
  refine zAb ?_
  rcases Nat.lt_or_ge i l.length with hil | hil
  · skip
    obtain ⟨rr, wd, hdec⟩ : ∃ rr wd, Utf8.decode ⟨l.toArray⟩ i = (rr, wd) := ⟨_, _, rfl⟩
    refine zAo rfl (wp_nextS E S rfl rfl (by decide) rfl (by repeat (first | exact pk1 | apply zAc)) (by omega) ?_); clear E S a; intro a w E S
    rw [hdec] at E S; dsimp only at E S
    refine zp E (zBr E rfl rfl rfl) ?_; clear E a; intro a E
    refine wpList_nil ?_
    refine zAf hK ?_; clear hK; clear K
    refine wp_seq_k ?_; intro K hK
    refine zCe E rfl ((by rfl)) ?_
    refine wp_skip ?_
    refine zAf hK ?_; clear hK; clear K
    refine wp_block ?_
    refine wp_seq_k ?_; intro K hK
    refine zAb ?_
    iterate 2 (refine zp E (zBr E rfl rfl rfl) ?_; clear E a; intro a E)
    iterate 2 (refine zp E (zAd E rfl rfl) ?_; clear E a; intro a E)
    refine wpList_nil ?_
    refine zAf hK ?_; clear hK; clear K
    refine wp_seq_k ?_; intro K hK
    refine zAb ?_
    iterate 2 (refine zp E (zAe E rfl rfl) ?_; clear E a; intro a E)
    refine zCy E rfl rfl (by decide) rfl rfl Tryz.func135 rfl (by kernel_rfl) rfl (vsign_ret rr _ _ S.hp) ?_
    rintro v17 w ⟨z, rfl, hz, hT⟩; clear E a; intro a E
    have S := S.all hT
    refine zp E (zAe E rfl rfl) ?_; clear E a; intro a E
    refine zp E (by first | exact zCc E rfl rfl rfl | exact zAs E rfl rfl rfl rfl | exact zBb E rfl rfl rfl rfl | exact zAt E rfl rfl rfl) ?_; clear E a; intro a E
    refine wpList_nil ?_
    refine zAf hK ?_; clear hK; clear K
    refine zBh E rfl (fun hb => ?_) (fun hb => ?_)
    · replace hb := Nrm.nrm hb
      refine wp_seq_k ?_; intro K hK
      refine zAb ?_
      refine zp E (zAe E rfl rfl) ?_; clear E a; intro a E
      refine zp E (zAd E rfl rfl) ?_; clear E a; intro a E
      refine wpList_nil ?_
      refine zAf hK ?_; clear hK; clear K
      refine wp_ret ?_
      refine zCj ?_
      refine zAy ?_
      refine zCj ?_
      refine zAy ?_; clear hK; clear K
      refine ret1 E rfl rfl ?_
      exact ⟨_, rfl, _, rfl, by
        refine ⟨fun _ hv => ?_, fun _ => by omega⟩
        have hv := hv i hil
        have h1 := zJb hil (by omega)
        rw [hdec] at h1
        have h2 := hz.1 (by simpa using hb)
        cases h1
        omega, S.tail.tr⟩
    · replace hb := Nrm.nrm hb
      refine wp_skip ?_
      refine zBe ?_
      refine zBj ?_
      have hz2 : ¬ (rr < 32 ∨ 126 < rr) := fun q => by have := hz.2 q; simp [this] at hb
      have hs : l[i].toNat < 128 := by
        refine Nat.lt_of_not_le fun q => ?_
        have := decode_big hil q
        rw [hdec] at this
        simp only at this
        omega
      have h1 := zJb hil hs
      rw [hdec] at h1
      cases h1
      exact ⟨_, by omega, i + 1, rfl, by omega, valP_more hok hil (by omega), S, E.keep (zAa rfl (zAa rfl (zAa rfl (zAa rfl zAm))))⟩
  · skip
    refine zAo rfl (wp_nextS_end E S rfl rfl (by decide) rfl (by repeat (first | exact pk1 | apply zAc)) (by omega) ?_); clear E a; intro a E
    refine zp E (zBr E rfl rfl rfl) ?_; clear E a; intro a E
    refine wpList_nil ?_
    refine zAf hK ?_; clear hK; clear K
    refine wp_seq_k ?_; intro K hK
    refine zDd E rfl ((by rfl)) ?_
    refine wp_exit ?_
    refine zBa ?_; clear hK; clear K
    refine zBa ?_
    refine zCg ?_
    refine zAf hK ?_; clear hK; clear K
    refine wp_seq_k ?_; intro K hK
    refine zAb ?_
    refine zp E (zAd E rfl rfl) ?_; clear E a; intro a E
    refine wpList_nil ?_
    refine zAf hK ?_; clear hK; clear K
    refine wp_ret ?_
    refine ret1 E rfl rfl ?_
    exact ⟨_, rfl, _, rfl, ⟨fun h => by omega, fun h => absurd (fun k hk => hok k hk (by omega)) h⟩, S.tail.tr⟩
theorem ifunc2_ret (l : List UInt8) (hl : l.length ≤ 140737488355328) (As : List zAw) (w0 : World) (H : Hp w0 As) :
    Ret Tryz.prog 141 #[str l, .func (.func 135) #[] #[]] w0 fun u w' => ∃ i : Int, u = .int .i64 i ∧ (0 ≤ i ↔ ¬ valP l) ∧ Trs w0 w' As As := by
  have S := St.begin H
  refine zCl 8 Tryz.func141 rfl rfl (by decide) ?_; intro a E
  refine wp_seq_k ?_; intro K hK
  refine zAb ?_
  refine zp E (zAd E rfl rfl) ?_; clear E a; intro a E
  refine wpList_nil ?_
  refine zAf hK ?_; clear hK; clear K
  refine wp_seq_k ?_; intro K hK
  refine zAb ?_
  iterate 2 (refine zp E (zAe E rfl rfl) ?_; clear E a; intro a E)
  refine zAp E rfl rfl (by decide) rfl Tryz.func146 rfl (by kernel_rfl) rfl (ifunc_ret l hl _ _ S.hp) ?_
  rintro v7 w ⟨i, rfl, hi, hT⟩; clear E a; intro a E
  have S := S.all hT
  refine zp E (zAd E rfl rfl) ?_; clear E a; intro a E
  refine wpList_nil ?_
  refine zAf hK ?_; clear hK; clear K
  refine wp_ret ?_
  refine ret1 E rfl rfl ?_
  exact ⟨_, rfl, i, rfl, hi, S.tr⟩
theorem cfunc_ret (l : List UInt8) (hl : l.length ≤ 140737488355328) (As : List zAw) (w0 : World) (H : Hp w0 As) :
    Ret Tryz.prog 134 #[str l, .func (.func 135) #[] #[]] w0 fun u w' => u = .bool (!valB l) ∧ Trs w0 w' As As := by
  have S := St.begin H
  refine zCl 9 Tryz.func134 rfl rfl (by decide) ?_; intro a E
  refine wp_seq_k ?_; intro K hK
  refine zAb ?_
  refine zp E (zAd E rfl rfl) ?_; clear E a; intro a E
  refine wpList_nil ?_
  refine zAf hK ?_; clear hK; clear K
  refine wp_seq_k ?_; intro K hK
  refine zAb ?_
  iterate 2 (refine zp E (zAe E rfl rfl) ?_; clear E a; intro a E)
  refine zAp E rfl rfl (by decide) rfl Tryz.func141 rfl (by kernel_rfl) rfl (ifunc2_ret l hl _ _ S.hp) ?_
  rintro v7 w ⟨i, rfl, hi, hT⟩; clear E a; intro a E
  have S := S.all hT
  refine zp E (zDy E rfl rfl rfl) ?_; clear E a; intro a E
  refine zp E (zAd E rfl rfl) ?_; clear E a; intro a E
  refine wpList_nil ?_
  refine zAf hK ?_; clear hK; clear K
  refine wp_ret ?_
  refine ret1 E rfl rfl ?_
  exact ⟨_, rfl, by congr 1; rw [Bool.eq_iff_iff, decide_eq_true_eq, hi]; simp [valB], S.tr⟩
theorem cvalue_ret (l : List UInt8) (hl : l.length ≤ 140737488355328) (As : List zAw) (w0 : World) (H : Hp w0 As) :
    Ret Tryz.prog 129 #[str l] w0 fun u w' => u = .bool (valB l) ∧ Trs w0 w' As As := by
  have S := St.begin H
  refine zCu 6 Tryz.func129 rfl rfl (by decide) ?_; intro a E
  refine wp_seq_k ?_; intro K hK
  refine zAb ?_
  refine zp E (zAd E rfl rfl) ?_; clear E a; intro a E
  refine wpList_nil ?_
  refine zAf hK ?_; clear hK; clear K
  refine wp_seq_k ?_; intro K hK
  refine zAb ?_
  refine zp E (zAe E rfl rfl) ?_; clear E a; intro a E
  refine zAp E rfl rfl (by decide) rfl Tryz.func134 rfl (by kernel_rfl) rfl (cfunc_ret l hl _ _ S.hp) ?_
  rintro v4 w ⟨rfl, hT⟩; clear E a; intro a E
  have S := S.all hT
  refine zp E (zDe E rfl rfl) ?_; clear E a; intro a E
  refine zp E (zAd E rfl rfl) ?_; clear E a; intro a E
  refine wpList_nil ?_
  refine zAf hK ?_; clear hK; clear K
  refine wp_ret ?_
  refine ret1 E rfl rfl ?_
  exact ⟨_, rfl, by simp, S.tr⟩
theorem nsign_ret (l : List UInt8) (hl : l.length ≤ 140737488355328) (As : List zAw) (w0 : World) (H : Hp w0 As) :
    Ret Tryz.prog 128 #[str l] w0 fun u w' => u = .bool (!zFj l) ∧ Trs w0 w' As As := by
  have S := St.begin H
  refine zCu 6 Tryz.func128 rfl rfl (by decide) ?_; intro a E
  refine wp_seq_k ?_; intro K hK
  refine zAb ?_
  refine zp E (zAd E rfl rfl) ?_; clear E a; intro a E
  refine wpList_nil ?_
  refine zAf hK ?_; clear hK; clear K
  refine wp_seq_k ?_; intro K hK
  refine zAb ?_
  refine zp E (zAe E rfl rfl) ?_; clear E a; intro a E
  refine zAp E rfl rfl (by decide) rfl Tryz.func48 rfl (by kernel_rfl) rfl (zIi l hl _ _ S.hp) ?_
  rintro v4 w ⟨rfl, hT⟩; clear E a; intro a E
  have S := S.all hT
  refine zp E (zDe E rfl rfl) ?_; clear E a; intro a E
  refine zp E (zAd E rfl rfl) ?_; clear E a; intro a E
  refine wpList_nil ?_
  refine zAf hK ?_; clear hK; clear K
  refine wp_ret ?_
  refine ret1 E rfl rfl ?_
  exact ⟨_, rfl, rfl, S.tr⟩
theorem sifunc_ret (ps : List (List UInt8)) (hl : ps.length ≤ 140737488355328) (hs : ∀ p ∈ ps, p.length ≤ 140737488355328) (g : Nat) (As : List zAw) (hG : [(g, cel (ps.map str) 9)] ∈ As) (w0 : World) (H : Hp w0 As) :
    Ret Tryz.prog 133 #[.slice (some ⟨g, 0, none⟩) ps.length ps.length, .func (.func 128) #[] #[]] w0 fun u w' => ∃ i : Int, u = .int .i64 i ∧ (0 ≤ i ↔ ∃ p ∈ ps, zFj p = false) ∧ Trs w0 w' As As := by
  have S := St.begin H
  refine zCl 19 Tryz.func133 rfl rfl (by decide) ?_; intro a E
  refine wp_seq_k ?_; intro K hK
  refine zAb ?_
  refine zp E (zAd E rfl rfl) ?_; clear E a; intro a E
  refine wpList_nil ?_
  refine zAf hK ?_; clear hK; clear K
  iterate 2 (refine wp_seq_k ?_; intro K hK)
  refine zAb ?_
  refine zp E (zAe E rfl rfl) ?_; clear E a; intro a E
  refine zp E (by first | exact zBu E rfl rfl rfl | exact zAx E rfl rfl rfl | exact zAq E rfl rfl rfl) ?_; clear E a; intro a E
  refine zp E (zAe E rfl rfl) ?_; clear E a; intro a E
  refine wpList_nil ?_
  refine zAf hK ?_; clear hK; clear K
  refine wp_block ?_
  refine wp_loop_ghost (fun (m : Nat) (a : Act) (w' : World) => ∃ i : Nat, m = ps.length - i ∧ i ≤ ps.length ∧ (∀ k, ∀ hk : k < ps.length, k < i → zFj ps[k] = true) ∧ St w0 As w' As ∧ Fr a 19 [(0, .slice (some ⟨g, 0, none⟩) ps.length ps.length), (1, .func (.func 128) #[] #[]), (7, .int .i64 ps.length), (8, .int .i64 i)]) (ps.length) ?_ ?_
  · exact ⟨0, by omega, by omega, by intro k _ h; omega, S, E.keep (zAa rfl (zAa rfl (zAa rfl (zAa rfl zAm))))⟩
  clear E; clear a; (try clear S); rintro m a w ⟨i, rfl, hi, hok, S, E⟩
  refine wp_seq_k ?_; intro K hK
  refine zAb ?_
  refine zp E (zCk E rfl rfl rfl) ?_; clear E a; intro a E
  refine wpList_nil ?_
  refine zAf hK ?_; clear hK; clear K
  refine wp_seq_k ?_; intro K hK
  refine zBh E rfl (fun hb => ?_) (fun hb => ?_)
  · replace hb := Nrm.nrm hb
    refine wp_skip ?_
    refine zAf hK ?_; clear hK; clear K
    refine wp_seq_k ?_; intro K hK
    refine wp_block ?_
    refine wp_seq_k ?_; intro K hK
    have hil : i < ps.length := by omega
    refine zAb ?_
    refine zp E (zAe E rfl rfl) ?_; clear E a; intro a E
    refine zp E (zAd E rfl rfl) ?_; clear E a; intro a E
    refine wpList_nil ?_
    refine zAf hK ?_; clear hK; clear K
    refine wp_seq_k ?_; intro K hK
    refine zAb ?_
    iterate 3 (refine zp E (zAe E rfl rfl) ?_; clear E a; intro a E)
    refine zp E (by first | exact zBo E rfl rfl rfl rfl rfl rfl (by omega) | exact zBq E rfl rfl rfl rfl rfl rfl (by omega) | exact zBd E rfl rfl rfl rfl rfl rfl (by omega)) ?_; clear E a; intro a E
    refine zp E (zAj E rfl rfl rfl (by rw [Nat.zero_add]; exact blk_str (S.stab.one hG) hil)) ?_; clear E a; intro a E
    refine zCy E rfl rfl (by decide) rfl rfl Tryz.func128 rfl (by kernel_rfl) rfl (nsign_ret ps[i] (hs _ (List.getElem_mem hil)) _ _ S.hp) ?_
    rintro v16 w ⟨rfl, hT⟩; clear E a; intro a E
    have S := S.all hT
    refine wpList_nil ?_
    refine zAf hK ?_; clear hK; clear K
    refine zBh E rfl (fun hb => ?_) (fun hb => ?_)
    · replace hb := Nrm.nrm hb
      refine wp_seq_k ?_; intro K hK
      refine zAb ?_
      refine zp E (zAe E rfl rfl) ?_; clear E a; intro a E
      refine zp E (zAd E rfl rfl) ?_; clear E a; intro a E
      refine wpList_nil ?_
      refine zAf hK ?_; clear hK; clear K
      refine wp_ret ?_
      refine zCj ?_
      refine zAy ?_; clear hK; clear K
      refine zAy ?_
      refine zCj ?_
      refine zAy ?_; clear hK; clear K
      refine ret1 E rfl rfl ?_
      exact ⟨_, rfl, _, rfl, ⟨fun _ => ⟨ps[i], List.getElem_mem hil, by simpa using hb⟩, fun _ => by omega⟩, S.tr⟩
    · replace hb := Nrm.nrm hb
      refine wp_skip ?_
      refine zBe ?_
      refine zAf hK ?_; clear hK; clear K
      refine zAb ?_
      refine zp E (zBt E rfl rfl rfl (by first | exact zCh (y := 1) (by omega) | exact w_in (by omega) | exact zBw (by omega) | exact rfl)) ?_; clear E a; intro a E
      refine zp E (zAe E rfl rfl) ?_; clear E a; intro a E
      refine wpList_nil ?_
      refine zBj ?_
      refine ⟨_, ?_, i + 1, rfl, by omega, ?_, S, E.keep (zAa rfl (zAa rfl (zAa rfl (zAa rfl zAm))))⟩
      · omega
      · intro k hk hki
        by_cases e : k = i
        · subst e; simpa using hb
        · exact hok k hk (by omega)
  · replace hb := Nrm.nrm hb
    refine wp_exit ?_
    refine zBa ?_; clear hK; clear K
    refine zBa ?_
    refine zCg ?_
    refine zAf hK ?_; clear hK; clear K
    refine wp_seq_k ?_; intro K hK
    refine zAb ?_
    refine zp E (zAd E rfl rfl) ?_; clear E a; intro a E
    refine wpList_nil ?_
    refine zAf hK ?_; clear hK; clear K
    refine wp_ret ?_
    refine ret1 E rfl rfl ?_
    refine ⟨_, rfl, _, rfl, ⟨fun h => by omega, fun ⟨p, hp, hq⟩ => ?_⟩, S.tr⟩
    obtain ⟨k, hk, rfl⟩ := List.getElem_of_mem hp
    rw [hok k hk (by omega)] at hq
    cases hq
theorem scfunc_ret (ps : List (List UInt8)) (hl : ps.length ≤ 140737488355328) (hs : ∀ p ∈ ps, p.length ≤ 140737488355328) (g : Nat) (As : List zAw) (hG : [(g, cel (ps.map str) 9)] ∈ As) (w0 : World) (H : Hp w0 As) :
    Ret Tryz.prog 127 #[.slice (some ⟨g, 0, none⟩) ps.length ps.length, .func (.func 128) #[] #[]] w0 fun u w' => ∃ z, u = .bool z ∧ (z = true ↔ ∃ p ∈ ps, zFj p = false) ∧ Trs w0 w' As As := by
  have S := St.begin H
  refine zCl 9 Tryz.func127 rfl rfl (by decide) ?_; intro a E
  refine wp_seq_k ?_; intro K hK
  refine zAb ?_
  refine zp E (zAd E rfl rfl) ?_; clear E a; intro a E
  refine wpList_nil ?_
  refine zAf hK ?_; clear hK; clear K
  refine wp_seq_k ?_; intro K hK
  refine zAb ?_
  iterate 2 (refine zp E (zAe E rfl rfl) ?_; clear E a; intro a E)
  refine zAp E rfl rfl (by decide) rfl Tryz.func133 rfl (by kernel_rfl) rfl (sifunc_ret ps hl hs g _ hG _ S.hp) ?_
  rintro v7 w ⟨i, rfl, hi, hT⟩; clear E a; intro a E
  have S := S.all hT
  refine zp E (zDy E rfl rfl rfl) ?_; clear E a; intro a E
  refine zp E (zAd E rfl rfl) ?_; clear E a; intro a E
  refine wpList_nil ?_
  refine zAf hK ?_; clear hK; clear K
  refine wp_ret ?_
  refine ret1 E rfl rfl ?_
  exact ⟨_, rfl, _, rfl, by rw [decide_eq_true_eq]; exact hi, S.tr⟩
theorem zIj : ∀ (l : List UInt8), ∀ p ∈ zDb l, p.length ≤ l.length
  | [], p, h => by simp [zDb] at h; simp [h]
  | c :: l, p, h => by
    unfold zDb at h
    split at h
    · rcases List.mem_cons.1 h with rfl | h
      · simp
      · have := zIj l p h; simp; omega
    · obtain ⟨q, qs, hq⟩ := zHv l
      rw [hq] at h
      rcases List.mem_cons.1 h with rfl | h
      · have := zIj l q (by rw [hq]; simp); simp; omega
      · have := zIj l p (by rw [hq]; simp [h]); simp; omega
theorem name_ret (l : List UInt8) (hl : l.length ≤ 1100000) (As : List zAw) (w0 : World) (H : Hp w0 As) :
    Ret Tryz.prog 115 #[str l] w0 fun u w' => u = .bool (nameB l) ∧ Trs w0 w' As As := by
  have S := St.begin H
  have hpl := zFi l
  have hcl : l.count 47 ≤ l.length := List.count_le_length
  have hps := zIj l
  refine zCu 19 Tryz.func115 rfl rfl (by decide) ?_; intro a E
  refine wp_seq_k ?_; intro K hK
  refine zAb ?_
  refine zp E (zAd E rfl rfl) ?_; clear E a; intro a E
  refine wpList_nil ?_
  refine zAf hK ?_; clear hK; clear K
  refine wp_seq_k ?_; intro K hK
  refine zAb ?_
  refine zp E (zAe E rfl rfl) ?_; clear E a; intro a E
  refine zAp E rfl rfl (by decide) rfl Tryz.func126 rfl (by kernel_rfl) rfl (split_ret l hl _ _ S.hp) ?_
  rintro v5 w ⟨g, rfl, hT⟩; clear E a; intro a E
  have S := S.all hT
  refine zp E (zAd E rfl rfl) ?_; clear E a; intro a E
  refine wpList_nil ?_
  refine zAf hK ?_; clear hK; clear K
  refine wp_seq_k ?_; intro K hK
  refine zAb ?_
  refine zp E (zAe E rfl rfl) ?_; clear E a; intro a E
  refine zp E (by first | exact zBu E rfl rfl rfl | exact zAx E rfl rfl rfl | exact zAq E rfl rfl rfl) ?_; clear E a; intro a E
  refine zp E (zDx E rfl rfl rfl) ?_; clear E a; intro a E
  refine zp E (zAe E rfl rfl) ?_; clear E a; intro a E
  refine zAr E (t := 9) rfl (fun hb9 => ?_) (fun hb9 => ?_)
  · have hb9n := hb9; replace hb9n := Nrm.nrm hb9n
    refine zy E hb9 (zAe E rfl rfl) ?_; clear E a; intro a E
    refine zy E hb9 (by first | exact zBu E rfl rfl rfl | exact zAx E rfl rfl rfl | exact zAq E rfl rfl rfl) ?_; clear E a; intro a E
    refine zy E hb9 (zDx E rfl rfl rfl) ?_; clear E a; intro a E
    refine zp E (zAk E rfl rfl hb9 rfl) ?_; clear E a; intro a E
    refine zp E (zAe E rfl rfl) ?_; clear E a; intro a E
    refine zAr E (t := 14) rfl (fun hb14 => ?_) (fun hb14 => ?_)
    · have hb14n := hb14; replace hb14n := Nrm.nrm hb14n
      refine zy E hb14 (zAe E rfl rfl) ?_; clear E a; intro a E
      refine zBx E rfl rfl rfl rfl hb14 ?_; refine zCo E rfl (by decide) rfl Tryz.func127 rfl (by kernel_rfl) rfl (scfunc_ret (zDb l) (by omega) (fun p hp => by have := hps p hp; omega) g _ (by repeat (first | exact mm1 | assumption | apply List.Mem.tail)) _ S.hp) ?_
      rintro v16 w ⟨z, rfl, hz, hT⟩; clear E a; intro a E
      have S := S.all hT
      refine zy E hb14 (zDe E rfl rfl) ?_; clear E a; intro a E
      refine zp E (zAk E rfl rfl hb14 rfl) ?_; clear E a; intro a E
      refine zp E (zAd E rfl rfl) ?_; clear E a; intro a E
      refine wpList_nil ?_
      refine zAf hK ?_; clear hK; clear K
      refine wp_ret ?_
      refine ret1 E rfl rfl ?_
      refine ⟨_, rfl, ?_, S.tail.tr⟩
      congr 1
      rw [Bool.eq_iff_iff, zGw]
      first
        | (simp [nameP]; omega)
        | (simp only [nameP, Bool.not_eq_true', ← Bool.not_eq_true, hz]; constructor
           · intro h; exact ⟨by omega, by omega, fun p hp => by simpa using fun q => h ⟨p, hp, q⟩⟩
           · rintro ⟨_, _, h⟩ ⟨p, hp, q⟩; rw [h p hp] at q; exact q rfl)
    · have hb14n := hb14; replace hb14n := Nrm.nrm hb14n
      iterate 3 (refine zn E hb14 ?_; clear E a; intro a E)
      refine zp E (zAi E rfl rfl hb14 rfl) ?_; clear E a; intro a E
      refine zp E (zAd E rfl rfl) ?_; clear E a; intro a E
      refine wpList_nil ?_
      refine zAf hK ?_; clear hK; clear K
      refine wp_ret ?_
      refine ret1 E rfl rfl ?_
      refine ⟨_, rfl, ?_, S.tail.tr⟩
      congr 1
      rw [Bool.eq_iff_iff, zGw]
      first
        | (simp [nameP]; omega)
        | (simp only [nameP, Bool.not_eq_true', ← Bool.not_eq_true, hz]; constructor
           · intro h; exact ⟨by omega, by omega, fun p hp => by simpa using fun q => h ⟨p, hp, q⟩⟩
           · rintro ⟨_, _, h⟩ ⟨p, hp, q⟩; rw [h p hp] at q; exact q rfl)
  · have hb9n := hb9; replace hb9n := Nrm.nrm hb9n
    iterate 3 (refine zn E hb9 ?_; clear E a; intro a E)
    refine zp E (zAi E rfl rfl hb9 rfl) ?_; clear E a; intro a E
    refine zp E (zAe E rfl rfl) ?_; clear E a; intro a E
    iterate 3 (refine zn E rfl ?_; clear E a; intro a E)
    refine zp E (zAi E rfl rfl rfl rfl) ?_; clear E a; intro a E
    refine zp E (zAd E rfl rfl) ?_; clear E a; intro a E
    refine wpList_nil ?_
    refine zAf hK ?_; clear hK; clear K
    refine wp_ret ?_
    refine ret1 E rfl rfl ?_
    refine ⟨_, rfl, ?_, S.tail.tr⟩
    congr 1
    rw [Bool.eq_iff_iff, zGw]
    first
      | (simp [nameP]; omega)
      | (simp only [nameP, Bool.not_eq_true', ← Bool.not_eq_true, hz]; constructor
         · intro h; exact ⟨by omega, by omega, fun p hp => by simpa using fun q => h ⟨p, hp, q⟩⟩
         · rintro ⟨_, _, h⟩ ⟨p, hp, q⟩; rw [h p hp] at q; exact q rfl)
end Go.Proofs.YtbogecljkaimdaaGreatDoor
namespace Go.Sl
theorem zFq {l : List Int} {i : Nat} (h : i < l.length) : (ints l)[i]? = some (.int .i64 l[i]) := by simp [ints, h]
def risAt (l : List Int) (x y : Int) (k : Nat) (h : k < l.length) : Prop := x ≤ l[k] ∧ l[k] ≤ y ∧ ∀ h0 : 0 < k, l[k - 1] < l[k]
theorem ris_no {l : List Int} {x y : Int} {i : Nat} (h : i < l.length) (h1 : ¬ (x ≤ l[i] ∧ l[i] ≤ y) ∨ ∃ h0 : 0 < i, l[i] ≤ l[i - 1]) : risB l x y = false :=
  risB_no fun q => by
    have := q.2 i h
    rcases h1 with h1 | ⟨h0, h1⟩
    · exact h1 ⟨this.1, this.2.1⟩
    · have := this.2.2 h0; omega
theorem ris_end {l : List Int} {x y : Int} (h : ∀ k, ∀ hk : k < l.length, risAt l x y k hk) : risB l x y = true ↔ l.length ≤ 240 := by
  rw [risB_iff]
  exact ⟨fun q => q.1, fun q => ⟨q, h⟩⟩
theorem zGc {n : Nat} {P : (k : Nat) → k < n → Prop} {i : Nat} (h : ∀ k, ∀ hk : k < n, k < i → P k hk) (hi : i < n) (h1 : P i hi) : ∀ k, ∀ hk : k < n, k < i + 1 → P k hk := by
  intro k hk hki
  by_cases e : k = i
  · subst e; exact h1
  · exact h k hk (by omega)
theorem prps_no {l : List Prp} {i : Nat} (h : i < l.length) (h1 : ¬ zHm l i h) : prpsB l = false := prpsB_no fun q => h1 (q.2 i h)
theorem prps_end {l : List Prp} (h : ∀ k, ∀ hk : k < l.length, zHm l k hk) : prpsB l = true ↔ l.length ≤ 12 := by
  rw [zGx]
  exact ⟨fun q => q.1, fun q => ⟨q, h⟩⟩
end Go.Sl
namespace Go.Proofs.YtbogecljkaimdaaGreatDoor
open Go.Sl
set_option maxRecDepth 10000
theorem zDs (n x y : Int) (As : List zAw) (w0 : World) (H : Hp w0 As) :
    Ret Tryz.prog 49 #[.int .i64 n, .int .i64 x, .int .i64 y] w0 fun u w' => u = .bool (decide (x ≤ n ∧ n ≤ y)) ∧ Trs w0 w' As As := by
  have S := St.begin H
  refine zFy 15 Tryz.func49 rfl rfl (by decide) ?_; intro a E
  refine wp_seq_k ?_; intro K hK
  refine zAb ?_
  refine zp E (zAd E rfl rfl) ?_; clear E a; intro a E
  refine wpList_nil ?_
  refine zAf hK ?_; clear hK; clear K
  refine wp_seq_k ?_; intro K hK
  refine zAb ?_
  iterate 2 (refine zp E (zAe E rfl rfl) ?_; clear E a; intro a E)
  refine zp E (zDy E rfl rfl rfl) ?_; clear E a; intro a E
  refine zp E (zAe E rfl rfl) ?_; clear E a; intro a E
  refine zAr E (t := 10) rfl (fun hb10 => ?_) (fun hb10 => ?_)
  · have hb10n := hb10; replace hb10n := Nrm.nrm hb10n
    iterate 2 (refine zy E hb10 (zAe E rfl rfl) ?_; clear E a; intro a E)
    refine zy E hb10 (zDx E rfl rfl rfl) ?_; clear E a; intro a E
    refine zp E (zAk E rfl rfl hb10 rfl) ?_; clear E a; intro a E
    refine zp E (zAd E rfl rfl) ?_; clear E a; intro a E
    refine wpList_nil ?_
    refine zAf hK ?_; clear hK; clear K
    refine wp_ret ?_
    refine ret1 E rfl rfl ?_
    exact ⟨_, rfl, by congr 1; simp; omega, S.tr⟩
  · have hb10n := hb10; replace hb10n := Nrm.nrm hb10n
    iterate 3 (refine zn E hb10 ?_; clear E a; intro a E)
    refine zp E (zAi E rfl rfl hb10 rfl) ?_; clear E a; intro a E
    refine zp E (zAd E rfl rfl) ?_; clear E a; intro a E
    refine wpList_nil ?_
    refine zAf hK ?_; clear hK; clear K
    refine wp_ret ?_
    refine ret1 E rfl rfl ?_
    exact ⟨_, rfl, by congr 1; simp; omega, S.tr⟩
theorem ris_ret (C : zAw) (v : Value) (l : List Int) (hR : Rd C 1 v l.length (ints l)) (hl : l.length ≤ 140737488355328) (x y : Int) (As : List zAw) (hC : C ∈ As) (w0 : World) (H : Hp w0 As) :
    Ret Tryz.prog 56 #[v, .int .i64 x, .int .i64 y] w0 fun u w' => u = .bool (risB l x y) ∧ Trs w0 w' As As := by
  have S := St.begin H
  obtain ⟨ad, c, rfl⟩ := hR.slice
  refine zFy 38 Tryz.func56 rfl rfl (by decide) ?_; intro a E
  refine wp_seq_k ?_; intro K hK
  refine zAb ?_
  refine zp E (zAd E rfl rfl) ?_; clear E a; intro a E
  refine wpList_nil ?_
  refine zAf hK ?_; clear hK; clear K
  iterate 2 (refine wp_seq_k ?_; intro K hK)
  refine zAb ?_
  refine zp E (zAe E rfl rfl) ?_; clear E a; intro a E
  refine zp E (by first | exact zBu E rfl rfl rfl | exact zAx E rfl rfl rfl | exact zAq E rfl rfl rfl) ?_; clear E a; intro a E
  refine zp E (zAe E rfl rfl) ?_; clear E a; intro a E
  refine wpList_nil ?_
  refine zAf hK ?_; clear hK; clear K
  refine wp_block ?_
  refine wp_loop_ghost (fun (m : Nat) (a : Act) (w' : World) => ∃ i : Nat, m = l.length - i ∧ i ≤ l.length ∧ (∀ k, ∀ hk : k < l.length, k < i → risAt l x y k hk) ∧ St w0 As w' As ∧ Fr a 38 [(0, .slice ad l.length c), (1, .int .i64 x), (2, .int .i64 y), (9, .slice ad l.length c), (10, .int .i64 l.length), (11, .int .i64 i)]) (l.length) ?_ ?_
  · exact ⟨0, by omega, by omega, by intro k _ h; omega, S, E.keep (zAa rfl (zAa rfl (zAa rfl (zAa rfl (zAa rfl (zAa rfl zAm))))))⟩
  clear E; clear a; (try clear S); rintro m a w ⟨i, rfl, hi, hok, S, E⟩
  refine wp_seq_k ?_; intro K hK
  refine zAb ?_
  refine zp E (zCk E rfl rfl rfl) ?_; clear E a; intro a E
  refine wpList_nil ?_
  refine zAf hK ?_; clear hK; clear K
  refine wp_seq_k ?_; intro K hK
  refine zBh E rfl (fun hb => ?_) (fun hb => ?_)
  · replace hb := Nrm.nrm hb
    refine wp_skip ?_
    refine zAf hK ?_; clear hK; clear K
    refine wp_seq_k ?_; intro K hK
    refine wp_block ?_
    refine wp_seq_k ?_; intro K hK
    have hil : i < l.length := by omega
    obtain ⟨b, off, rfl⟩ := hR.addr (by omega)
    refine zAb ?_
    refine zp E (zAe E rfl rfl) ?_; clear E a; intro a E
    refine zp E (by first | exact zBo E rfl rfl rfl rfl rfl rfl (by omega) | exact zBq E rfl rfl rfl rfl rfl rfl (by omega) | exact zBd E rfl rfl rfl rfl rfl rfl (by omega)) ?_; clear E a; intro a E
    refine zp E (zAj E rfl rfl rfl (hR.cells (S.stab.at hC) rfl i _ (zFq hil))) ?_; clear E a; intro a E
    iterate 2 (refine zp E (zAd E rfl rfl) ?_; clear E a; intro a E)
    refine wpList_nil ?_
    refine zAf hK ?_; clear hK; clear K
    refine wp_seq_k ?_; intro K hK
    refine zAb ?_
    iterate 3 (refine zp E (zAe E rfl rfl) ?_; clear E a; intro a E)
    refine zAp E rfl rfl (by decide) rfl Tryz.func49 rfl (by kernel_rfl) rfl (zDs l[i] x y _ _ S.hp) ?_
    rintro v19 w ⟨rfl, hT⟩; clear E a; intro a E
    have S := S.all hT
    refine zp E (zDe E rfl rfl) ?_; clear E a; intro a E
    refine zp E (zAe E rfl rfl) ?_; clear E a; intro a E
    refine zAr E (t := 21) rfl (fun hb21 => ?_) (fun hb21 => ?_)
    · have hb21n := hb21; replace hb21n := Nrm.nrm hb21n
      iterate 3 (refine zn E hb21 ?_; clear E a; intro a E)
      iterate 7 (refine zu E ?_; clear E a; intro a E)
      refine zn E hb21 ?_; clear E a; intro a E
      refine zp E (zAk E rfl rfl hb21 rfl) ?_; clear E a; intro a E
      refine wpList_nil ?_
      refine zAf hK ?_; clear hK; clear K
      refine zCe E rfl rfl ?_
      refine wp_seq_k ?_; intro K hK
      refine zAb ?_
      refine zp E (zAd E rfl rfl) ?_; clear E a; intro a E
      refine wpList_nil ?_
      refine zAf hK ?_; clear hK; clear K
      refine wp_ret ?_
      refine zCj ?_
      refine zAy ?_; clear hK; clear K
      refine zAy ?_
      refine zCj ?_
      refine zAy ?_; clear hK; clear K
      refine ret1 E rfl rfl ?_
      exact ⟨_, rfl, by congr 1; exact (ris_no hil (by first | exact .inr ⟨by omega, hb⟩ | (refine .inl fun q => ?_; simp [q] at hb21; done))).symm, S.tr⟩
    · have hb21n := hb21; replace hb21n := Nrm.nrm hb21n
      refine zy E hb21 (zAe E rfl rfl) ?_; clear E a; intro a E
      refine zy E hb21 (zDt E rfl rfl rfl) ?_; clear E a; intro a E
      refine zy E hb21 (zAe E rfl rfl) ?_; clear E a; intro a E
      refine zAr E (t := 24) rfl (fun hb24 => ?_) (fun hb24 => ?_)
      · have hb24n := hb24; replace hb24n := Nrm.nrm hb24n
        iterate 2 (refine zy E hb24 (zAe E rfl rfl) ?_; clear E a; intro a E)
        refine zy E hb24 (zEe E rfl rfl rfl (by first | exact zFu (y := 1) (by omega) (by omega) | exact w_in (by omega) | exact zBw (by omega) | exact rfl)) ?_; clear E a; intro a E
        refine zy E hb24 (by first | exact zBo E rfl rfl rfl rfl rfl rfl (by omega) | exact zBq E rfl rfl rfl rfl rfl rfl (by omega) | exact zBd E rfl rfl rfl rfl rfl rfl (by omega)) ?_; clear E a; intro a E
        refine zy E hb24 (zAj E rfl rfl rfl (hR.cells (S.stab.at hC) rfl (i - 1) _ (zFq (by omega)))) ?_; clear E a; intro a E
        refine zy E hb24 (zAe E rfl rfl) ?_; clear E a; intro a E
        refine zy E hb24 (zDy E rfl rfl rfl) ?_; clear E a; intro a E
        refine zy E hb21 (zAk E rfl rfl hb24 rfl) ?_; clear E a; intro a E
        refine zp E (zAi E rfl rfl hb21 rfl) ?_; clear E a; intro a E
        refine wpList_nil ?_
        refine zAf hK ?_; clear hK; clear K
        refine zBh E rfl (fun hb => ?_) (fun hb => ?_)
        · replace hb := Nrm.nrm hb
          refine wp_seq_k ?_; intro K hK
          refine zAb ?_
          refine zp E (zAd E rfl rfl) ?_; clear E a; intro a E
          refine wpList_nil ?_
          refine zAf hK ?_; clear hK; clear K
          refine wp_ret ?_
          refine zCj ?_
          refine zAy ?_; clear hK; clear K
          refine zAy ?_
          refine zCj ?_
          refine zAy ?_; clear hK; clear K
          refine ret1 E rfl rfl ?_
          exact ⟨_, rfl, by congr 1; exact (ris_no hil (by first | exact .inr ⟨by omega, hb⟩ | (refine .inl fun q => ?_; simp [q] at hb21; done))).symm, S.tr⟩
        · replace hb := Nrm.nrm hb
          refine wp_skip ?_
          refine zBe ?_
          refine zAf hK ?_; clear hK; clear K
          refine zAb ?_
          refine zp E (zBt E rfl rfl rfl (by first | exact zCh (y := 1) (by omega) | exact w_in (by omega) | exact zBw (by omega) | exact rfl)) ?_; clear E a; intro a E
          refine zp E (zAe E rfl rfl) ?_; clear E a; intro a E
          refine wpList_nil ?_
          refine zBj ?_
          exact ⟨_, by omega, i + 1, rfl, by omega, zGc hok hil (by have q : x ≤ l[i] ∧ l[i] ≤ y := (by simpa using hb21); exact ⟨q.1, q.2, fun h0 => by first | omega | exact absurd h0 (by omega)⟩), S, E.keep (zAa rfl (zAa rfl (zAa rfl (zAa rfl (zAa rfl (zAa rfl zAm))))))⟩
      · have hb24n := hb24; replace hb24n := Nrm.nrm hb24n
        iterate 7 (refine zn E hb24 ?_; clear E a; intro a E)
        refine zy E hb21 (zAi E rfl rfl hb24 rfl) ?_; clear E a; intro a E
        refine zp E (zAi E rfl rfl hb21 rfl) ?_; clear E a; intro a E
        refine wpList_nil ?_
        refine zAf hK ?_; clear hK; clear K
        refine zDd E rfl rfl ?_
        refine wp_skip ?_
        refine zBe ?_
        refine zAf hK ?_; clear hK; clear K
        refine zAb ?_
        refine zp E (zBt E rfl rfl rfl (by first | exact zCh (y := 1) (by omega) | exact w_in (by omega) | exact zBw (by omega) | exact rfl)) ?_; clear E a; intro a E
        refine zp E (zAe E rfl rfl) ?_; clear E a; intro a E
        refine wpList_nil ?_
        refine zBj ?_
        exact ⟨_, by omega, i + 1, rfl, by omega, zGc hok hil (by have q : x ≤ l[i] ∧ l[i] ≤ y := (by simpa using hb21); exact ⟨q.1, q.2, fun h0 => by first | omega | exact absurd h0 (by omega)⟩), S, E.keep (zAa rfl (zAa rfl (zAa rfl (zAa rfl (zAa rfl (zAa rfl zAm))))))⟩
  · replace hb := Nrm.nrm hb
    refine wp_exit ?_
    refine zBa ?_; clear hK; clear K
    refine zBa ?_
    refine zCg ?_
    refine zAf hK ?_; clear hK; clear K
    refine wp_seq_k ?_; intro K hK
    refine zAb ?_
    refine zp E (zAe E rfl rfl) ?_; clear E a; intro a E
    refine zp E (by first | exact zBu E rfl rfl rfl | exact zAx E rfl rfl rfl | exact zAq E rfl rfl rfl) ?_; clear E a; intro a E
    refine zp E (zDx E rfl rfl rfl) ?_; clear E a; intro a E
    refine zp E (zAd E rfl rfl) ?_; clear E a; intro a E
    refine wpList_nil ?_
    refine zAf hK ?_; clear hK; clear K
    refine wp_ret ?_
    refine ret1 E rfl rfl ?_
    exact ⟨_, rfl, by congr 1; rw [Bool.eq_iff_iff, ris_end (l := l) (fun k hk => hok k hk (by omega))]; simp; omega, S.tr⟩
theorem props_ret (C : zAw) (v : Value) (l : List Prp) (hR : Rd C 2 v l.length (l.flatMap Prp.lay)) (hl : l.length ≤ 140737488355328) (hs : ∀ p ∈ l, p.name.length ≤ 1048576 ∧ p.value.length ≤ 1048576) (As : List zAw) (hC : C ∈ As) (w0 : World) (H : Hp w0 As) :
    Ret Tryz.prog 116 #[v] w0 fun u w' => u = .bool (prpsB l) ∧ Trs w0 w' As As := by
  have S := St.begin H
  obtain ⟨ad, c, rfl⟩ := hR.slice
  refine zCu 48 Tryz.func116 rfl rfl (by decide) ?_; intro a E
  refine wp_seq_k ?_; intro K hK
  refine zAb ?_
  refine zp E (zAd E rfl rfl) ?_; clear E a; intro a E
  refine wpList_nil ?_
  refine zAf hK ?_; clear hK; clear K
  iterate 2 (refine wp_seq_k ?_; intro K hK)
  refine zAb ?_
  refine zp E (zAe E rfl rfl) ?_; clear E a; intro a E
  refine zp E (by first | exact zBu E rfl rfl rfl | exact zAx E rfl rfl rfl | exact zAq E rfl rfl rfl) ?_; clear E a; intro a E
  refine zp E (zAe E rfl rfl) ?_; clear E a; intro a E
  refine wpList_nil ?_
  refine zAf hK ?_; clear hK; clear K
  refine wp_block ?_
  refine wp_loop_ghost (fun (m : Nat) (a : Act) (w' : World) => ∃ i : Nat, m = l.length - i ∧ i ≤ l.length ∧ (∀ k, ∀ hk : k < l.length, k < i → zHm l k hk) ∧ St w0 As w' As ∧ Fr a 48 [(0, .slice ad l.length c), (5, .slice ad l.length c), (6, .int .i64 l.length), (7, .int .i64 i)]) (l.length) ?_ ?_
  · exact ⟨0, by omega, by omega, by intro k _ h; omega, S, E.keep (zAa rfl (zAa rfl (zAa rfl (zAa rfl zAm))))⟩
  clear E; clear a; (try clear S); rintro m a w ⟨i, rfl, hi, hok, S, E⟩
  refine wp_seq_k ?_; intro K hK
  refine zAb ?_
  refine zp E (zCk E rfl rfl rfl) ?_; clear E a; intro a E
  refine wpList_nil ?_
  refine zAf hK ?_; clear hK; clear K
  refine wp_seq_k ?_; intro K hK
  refine zBh E rfl (fun hb => ?_) (fun hb => ?_)
  · replace hb := Nrm.nrm hb
    refine wp_skip ?_
    refine zAf hK ?_; clear hK; clear K
    refine wp_seq_k ?_; intro K hK
    refine wp_block ?_
    refine wp_seq_k ?_; intro K hK
    have hil : i < l.length := by omega
    obtain ⟨b, off, rfl⟩ := hR.addr (by omega)
    have hsi := hs _ (List.getElem_mem hil)
    refine zAb ?_
    refine zp E (zAe E rfl rfl) ?_; clear E a; intro a E
    refine zp E (by first | exact zBo E rfl rfl rfl rfl rfl rfl (by omega) | exact zBq E rfl rfl rfl rfl rfl rfl (by omega) | exact zBd E rfl rfl rfl rfl rfl rfl (by omega)) ?_; clear E a; intro a E
    refine zp E (zEh (vs := [_, _]) E rfl rfl rfl rfl (hR.elem (lay := Prp.lay) Prp.lay_len (S.stab.at hC) hil)) ?_; clear E a; intro a E
    refine zAo rfl (zBy E S rfl rfl (by decide) rfl rfl rfl ?_); clear E S a; intro a w b4 E S
    refine zp E (zAd E rfl rfl) ?_; clear E a; intro a E
    refine zAo rfl (zBk E S rfl rfl rfl rfl (by simp [Value.oneCell']) rfl (by repeat (first | exact pk1 | apply zAc)) (by simp) ?_); clear E S a; intro a w E S; simp only [List.take_succ_cons, List.take_zero, List.drop_succ_cons, List.drop_zero, List.cons_append, List.nil_append, List.append_nil, List.length_cons, List.length_nil, Nat.zero_add, Nat.add_zero] at S
    refine wpList_nil ?_
    refine zAf hK ?_; clear hK; clear K
    refine wp_seq_k ?_; intro K hK
    obtain ⟨p, hp⟩ : ∃ p, p = l[i] := ⟨_, rfl⟩
    rw [← hp] at S hsi
    refine zDp S (.ofL [(0, 0), (1, 0), (2, 1), (3, 0), (4, 0), (5, 0), (6, 0), (7, 0), (8, 1), (9, 0), (10, 0), (11, 0), (12, 0), (13, 0), (14, 1), (15, 0), (16, 0), (17, 0), (18, 0), (19, 0), (20, 0), (21, 0), (22, 0), (23, 0), (24, 0), (25, 0), (26, 0), (27, 0), (28, 0), (29, 0), (30, 0), (31, 0)]) [C, [(b4, cel [str p.name, str p.value] 70)]] (fun h => h.sub (by first | (simp; done) | (simp +contextual; done) | (simp [*]; done))) (by kernel_rfl) (by kernel_rfl) ?_
    clear S; intro w S
    refine zm E rfl (fun w h => by first | exact zAg (q := 0) E rfl rfl rfl | exact zAh (q := 0) E rfl rfl rfl) ?_; clear E a; intro a E
    refine zm E rfl (fun w h => by first | exact zAn E rfl rfl rfl (h.one (by repeat (first | exact mm1 | assumption | apply List.Mem.tail))) rfl | exact zAj E rfl rfl rfl (by assumption)) ?_; clear E a; intro a E
    refine zCd E rfl rfl rfl (by decide) rfl Tryz.func48 rfl (by kernel_rfl) rfl (zIi p.name (by omega) _ _ S.hp) ?_
    rintro v14 w ⟨rfl, hT⟩; clear E a; intro a E
    have S := S.all hT
    refine ⟨S.stab.sub (by first | (simp; done) | (simp +contextual; done) | (simp [*]; done)), ?_⟩
    refine zm E rfl (fun w h => zDe E rfl rfl) ?_; clear E a; intro a E
    refine zm E rfl (fun w h => zAe E rfl rfl) ?_; clear E a; intro a E
    refine zAr E (t := 16) rfl (fun hb16 => ?_) (fun hb16 => ?_)
    · have hb16n := hb16; replace hb16n := Nrm.nrm hb16n
      iterate 3 (refine zCa E rfl rfl rfl rfl rfl hb16 rfl (by decide) ?_; clear E a; intro a E)
      refine zFc E rfl rfl rfl rfl rfl hb16 rfl (by decide) (S.stab.sub (by first | (simp; done) | (simp +contextual; done) | (simp [*]; done))) ?_; clear E a; intro a E
      refine zCa E rfl rfl rfl rfl rfl hb16 rfl (by decide) ?_; clear E a; intro a E
      refine zm E rfl (fun w h => zAk E rfl rfl hb16 rfl) ?_; clear E a; intro a E
      refine zm E rfl (fun w h => zAe E rfl rfl) ?_; clear E a; intro a E
      iterate 2 (refine zCa E rfl rfl rfl rfl rfl rfl rfl (by decide) ?_; clear E a; intro a E)
      refine zFc E rfl rfl rfl rfl rfl rfl rfl (by decide) (S.stab.sub (by first | (simp; done) | (simp +contextual; done) | (simp [*]; done))) ?_; clear E a; intro a E
      refine zCa E rfl rfl rfl rfl rfl rfl rfl (by decide) ?_; clear E a; intro a E
      refine zm E rfl (fun w h => zAk E rfl rfl rfl rfl) ?_; clear E a; intro a E
      refine zm E rfl (fun w h => zAe E rfl rfl) ?_; clear E a; intro a E
      iterate 3 (refine zCa E rfl rfl rfl rfl rfl rfl rfl (by decide) ?_; clear E a; intro a E)
      iterate 9 (refine zDl E rfl rfl rfl rfl rfl rfl (by decide) ?_; clear E a; intro a E)
      refine zCa E rfl rfl rfl rfl rfl rfl rfl (by decide) ?_; clear E a; intro a E
      refine zm E rfl (fun w h => zAk E rfl rfl rfl rfl) ?_; clear E a; intro a E
      refine zBz ?_
      refine zAf hK ?_; clear hK; clear K
      refine zCe E rfl rfl ?_
      refine wp_seq_k ?_; intro K hK
      refine zAb ?_
      refine zp E (zAd E rfl rfl) ?_; clear E a; intro a E
      refine wpList_nil ?_
      refine zAf hK ?_; clear hK; clear K
      refine wp_ret ?_
      refine zCj ?_
      refine zAy ?_; clear hK; clear K
      refine zAy ?_
      refine zCj ?_
      refine zAy ?_; clear hK; clear K
      refine ret1 E rfl rfl ?_
      exact ⟨_, rfl, by congr 1; exact (prps_no hil (by
        unfold zHm; rw [← hp]; rintro ⟨q1, q2, q3, q4, q5⟩
        first | (simp [q1] at hb16; done) | (simp at hb23; omega) | (simp [q4] at hb29; done) | (simp [q5 (by omega)] at hb; done))).symm, S.tail.tr⟩
    · have hb16n := hb16; replace hb16n := Nrm.nrm hb16n
      refine zAz E rfl rfl rfl rfl rfl hb16 rfl (by decide) (fun w h => by first | exact zAg (q := 1) E rfl rfl rfl | exact zAh (q := 1) E rfl rfl rfl) ?_; clear E a; intro a E
      refine zAz E rfl rfl rfl rfl rfl hb16 rfl (by decide) (fun w h => by first | exact zAn E rfl rfl rfl (h.one (by repeat (first | exact mm1 | assumption | apply List.Mem.tail))) rfl | exact zAj E rfl rfl rfl (by assumption)) ?_; clear E a; intro a E
      refine zAz E rfl rfl rfl rfl rfl hb16 rfl (by decide) (fun w h => by first | exact zBu E rfl rfl rfl | exact zAx E rfl rfl rfl | exact zAq E rfl rfl rfl) ?_; clear E a; intro a E
      refine zIb E rfl rfl rfl rfl rfl hb16 ?_; refine zCo E rfl (by decide) rfl Tryz.func49 rfl (by kernel_rfl) rfl (zDs p.value.length 1 64 _ _ S.hp) ?_
      rintro v20 w ⟨rfl, hT⟩; clear E a; intro a E
      have S := S.all hT
      refine ⟨S.stab.sub (by first | (simp; done) | (simp +contextual; done) | (simp [*]; done)), ?_⟩
      refine zAz E rfl rfl rfl rfl rfl hb16 rfl (by decide) (fun w h => zDe E rfl rfl) ?_; clear E a; intro a E
      refine zm E rfl (fun w h => zAi E rfl rfl hb16 rfl) ?_; clear E a; intro a E
      refine zm E rfl (fun w h => zAe E rfl rfl) ?_; clear E a; intro a E
      refine zAr E (t := 23) rfl (fun hb23 => ?_) (fun hb23 => ?_)
      · have hb23n := hb23; replace hb23n := Nrm.nrm hb23n
        iterate 2 (refine zCa E rfl rfl rfl rfl rfl hb23 rfl (by decide) ?_; clear E a; intro a E)
        refine zFc E rfl rfl rfl rfl rfl hb23 rfl (by decide) (S.stab.sub (by first | (simp; done) | (simp +contextual; done) | (simp [*]; done))) ?_; clear E a; intro a E
        refine zCa E rfl rfl rfl rfl rfl hb23 rfl (by decide) ?_; clear E a; intro a E
        refine zm E rfl (fun w h => zAk E rfl rfl hb23 rfl) ?_; clear E a; intro a E
        refine zm E rfl (fun w h => zAe E rfl rfl) ?_; clear E a; intro a E
        iterate 3 (refine zCa E rfl rfl rfl rfl rfl rfl rfl (by decide) ?_; clear E a; intro a E)
        iterate 9 (refine zDl E rfl rfl rfl rfl rfl rfl (by decide) ?_; clear E a; intro a E)
        refine zCa E rfl rfl rfl rfl rfl rfl rfl (by decide) ?_; clear E a; intro a E
        refine zm E rfl (fun w h => zAk E rfl rfl rfl rfl) ?_; clear E a; intro a E
        refine zBz ?_
        refine zAf hK ?_; clear hK; clear K
        refine zCe E rfl rfl ?_
        refine wp_seq_k ?_; intro K hK
        refine zAb ?_
        refine zp E (zAd E rfl rfl) ?_; clear E a; intro a E
        refine wpList_nil ?_
        refine zAf hK ?_; clear hK; clear K
        refine wp_ret ?_
        refine zCj ?_
        refine zAy ?_; clear hK; clear K
        refine zAy ?_
        refine zCj ?_
        refine zAy ?_; clear hK; clear K
        refine ret1 E rfl rfl ?_
        exact ⟨_, rfl, by congr 1; exact (prps_no hil (by
          unfold zHm; rw [← hp]; rintro ⟨q1, q2, q3, q4, q5⟩
          first | (simp [q1] at hb16; done) | (simp at hb23; omega) | (simp [q4] at hb29; done) | (simp [q5 (by omega)] at hb; done))).symm, S.tail.tr⟩
      · have hb23n := hb23; replace hb23n := Nrm.nrm hb23n
        refine zAz E rfl rfl rfl rfl rfl hb23 rfl (by decide) (fun w h => by first | exact zAg (q := 1) E rfl rfl rfl | exact zAh (q := 1) E rfl rfl rfl) ?_; clear E a; intro a E
        refine zAz E rfl rfl rfl rfl rfl hb23 rfl (by decide) (fun w h => by first | exact zAn E rfl rfl rfl (h.one (by repeat (first | exact mm1 | assumption | apply List.Mem.tail))) rfl | exact zAj E rfl rfl rfl (by assumption)) ?_; clear E a; intro a E
        refine zIb E rfl rfl rfl rfl rfl hb23 ?_; refine zCo E rfl (by decide) rfl Tryz.func129 rfl (by kernel_rfl) rfl (cvalue_ret p.value (by omega) _ _ S.hp) ?_
        rintro v26 w ⟨rfl, hT⟩; clear E a; intro a E
        have S := S.all hT
        refine ⟨S.stab.sub (by first | (simp; done) | (simp +contextual; done) | (simp [*]; done)), ?_⟩
        refine zAz E rfl rfl rfl rfl rfl hb23 rfl (by decide) (fun w h => zDe E rfl rfl) ?_; clear E a; intro a E
        refine zm E rfl (fun w h => zAi E rfl rfl hb23 rfl) ?_; clear E a; intro a E
        refine zm E rfl (fun w h => zAe E rfl rfl) ?_; clear E a; intro a E
        refine zAr E (t := 29) rfl (fun hb29 => ?_) (fun hb29 => ?_)
        · have hb29n := hb29; replace hb29n := Nrm.nrm hb29n
          iterate 3 (refine zCa E rfl rfl rfl rfl rfl hb29 rfl (by decide) ?_; clear E a; intro a E)
          iterate 9 (refine zDl E rfl rfl rfl rfl rfl rfl (by decide) ?_; clear E a; intro a E)
          refine zCa E rfl rfl rfl rfl rfl hb29 rfl (by decide) ?_; clear E a; intro a E
          refine zm E rfl (fun w h => zAk E rfl rfl hb29 rfl) ?_; clear E a; intro a E
          refine zBz ?_
          refine zAf hK ?_; clear hK; clear K
          refine zCe E rfl rfl ?_
          refine wp_seq_k ?_; intro K hK
          refine zAb ?_
          refine zp E (zAd E rfl rfl) ?_; clear E a; intro a E
          refine wpList_nil ?_
          refine zAf hK ?_; clear hK; clear K
          refine wp_ret ?_
          refine zCj ?_
          refine zAy ?_; clear hK; clear K
          refine zAy ?_
          refine zCj ?_
          refine zAy ?_; clear hK; clear K
          refine ret1 E rfl rfl ?_
          exact ⟨_, rfl, by congr 1; exact (prps_no hil (by
            unfold zHm; rw [← hp]; rintro ⟨q1, q2, q3, q4, q5⟩
            first | (simp [q1] at hb16; done) | (simp at hb23; omega) | (simp [q4] at hb29; done) | (simp [q5 (by omega)] at hb; done))).symm, S.tail.tr⟩
        · have hb29n := hb29; replace hb29n := Nrm.nrm hb29n
          refine zAz E rfl rfl rfl rfl rfl hb29 rfl (by decide) (fun w h => zAe E rfl rfl) ?_; clear E a; intro a E
          refine zAz E rfl rfl rfl rfl rfl hb29 rfl (by decide) (fun w h => zDt E rfl rfl rfl) ?_; clear E a; intro a E
          refine zAz E rfl rfl rfl rfl rfl hb29 rfl (by decide) (fun w h => zAe E rfl rfl) ?_; clear E a; intro a E
          refine zAr E (t := 32) rfl (fun hb32 => ?_) (fun hb32 => ?_)
          · have hb32n := hb32; replace hb32n := Nrm.nrm hb32n
            iterate 2 (refine zAz E rfl rfl rfl rfl rfl hb32 rfl (by decide) (fun w h => zAe E rfl rfl) ?_; clear E a; intro a E)
            refine zAz E rfl rfl rfl rfl rfl hb32 rfl (by decide) (fun w h => zEe E rfl rfl rfl (by first | exact zFu (y := 1) (by omega) (by omega) | exact w_in (by omega) | exact zBw (by omega) | exact rfl)) ?_; clear E a; intro a E
            refine zAz E rfl rfl rfl rfl rfl hb32 rfl (by decide) (fun w h => by first | exact zBo E rfl rfl rfl rfl rfl rfl (by omega) | exact zBq E rfl rfl rfl rfl rfl rfl (by omega) | exact zBd E rfl rfl rfl rfl rfl rfl (by omega)) ?_; clear E a; intro a E
            refine zAz E rfl rfl rfl rfl rfl hb32 rfl (by decide) (fun w h => by first | exact zAg (q := 0) E rfl rfl rfl | exact zAh (q := 0) E rfl rfl rfl) ?_; clear E a; intro a E
            refine zAz E rfl rfl rfl rfl rfl hb32 rfl (by decide) (fun w h => zAj E rfl rfl rfl (hR.elem (lay := Prp.lay) Prp.lay_len (h.at (by repeat (first | exact mm1 | assumption | apply List.Mem.tail))) (i := i - 1) (by omega) 0 _ rfl)) ?_; clear E a; intro a E
            refine zAz E rfl rfl rfl rfl rfl hb32 rfl (by decide) (fun w h => by first | exact zAg (q := 0) E rfl rfl rfl | exact zAh (q := 0) E rfl rfl rfl) ?_; clear E a; intro a E
            refine zAz E rfl rfl rfl rfl rfl hb32 rfl (by decide) (fun w h => by first | exact zAn E rfl rfl rfl (h.one (by repeat (first | exact mm1 | assumption | apply List.Mem.tail))) rfl | exact zAj E rfl rfl rfl (by assumption)) ?_; clear E a; intro a E
            refine zAz E rfl rfl rfl rfl rfl hb32 rfl (by decide) (fun w h => zIg E rfl rfl rfl) ?_; clear E a; intro a E
            refine zAz E rfl rfl rfl rfl rfl hb29 rfl (by decide) (fun w h => zAk E rfl rfl hb32 rfl) ?_; clear E a; intro a E
            refine zm E rfl (fun w h => zAi E rfl rfl hb29 rfl) ?_; clear E a; intro a E
            refine zBz ?_
            refine zAf hK ?_; clear hK; clear K
            refine zBh E rfl (fun hb => ?_) (fun hb => ?_)
            · replace hb := Nrm.nrm hb
              refine wp_seq_k ?_; intro K hK
              refine zAb ?_
              refine zp E (zAd E rfl rfl) ?_; clear E a; intro a E
              refine wpList_nil ?_
              refine zAf hK ?_; clear hK; clear K
              refine wp_ret ?_
              refine zCj ?_
              refine zAy ?_; clear hK; clear K
              refine zAy ?_
              refine zCj ?_
              refine zAy ?_; clear hK; clear K
              refine ret1 E rfl rfl ?_
              exact ⟨_, rfl, by congr 1; exact (prps_no hil (by
                unfold zHm; rw [← hp]; rintro ⟨q1, q2, q3, q4, q5⟩
                first | (simp [q1] at hb16; done) | (simp at hb23; omega) | (simp [q4] at hb29; done) | (simp [q5 (by omega)] at hb; done))).symm, S.tail.tr⟩
            · replace hb := Nrm.nrm hb
              refine wp_skip ?_
              refine zBe ?_
              refine zAf hK ?_; clear hK; clear K
              refine zAb ?_
              refine zp E (zBt E rfl rfl rfl (by first | exact zCh (y := 1) (by omega) | exact w_in (by omega) | exact zBw (by omega) | exact rfl)) ?_; clear E a; intro a E
              refine zp E (zAe E rfl rfl) ?_; clear E a; intro a E
              refine wpList_nil ?_
              refine zBj ?_
              exact ⟨_, by omega, i + 1, rfl, by omega, zGc hok hil (by
                unfold zHm; rw [← hp]
                refine ⟨by simpa using hb16, ?_, ?_, by simpa using hb29, fun h0 => ?_⟩
                · simp at hb23; omega
                · simp at hb23; omega
                · first | (simpa using hb) | exact absurd h0 (by omega)), S.tail, E.keep (zAa rfl (zAa rfl (zAa rfl (zAa rfl zAm))))⟩
          · have hb32n := hb32; replace hb32n := Nrm.nrm hb32n
            iterate 9 (refine zCa E rfl rfl rfl rfl rfl hb32 rfl (by decide) ?_; clear E a; intro a E)
            refine zAz E rfl rfl rfl rfl rfl hb29 rfl (by decide) (fun w h => zAi E rfl rfl hb32 rfl) ?_; clear E a; intro a E
            refine zm E rfl (fun w h => zAi E rfl rfl hb29 rfl) ?_; clear E a; intro a E
            refine zBz ?_
            refine zAf hK ?_; clear hK; clear K
            refine zDd E rfl rfl ?_
            refine wp_skip ?_
            refine zBe ?_
            refine zAf hK ?_; clear hK; clear K
            refine zAb ?_
            refine zp E (zBt E rfl rfl rfl (by first | exact zCh (y := 1) (by omega) | exact w_in (by omega) | exact zBw (by omega) | exact rfl)) ?_; clear E a; intro a E
            refine zp E (zAe E rfl rfl) ?_; clear E a; intro a E
            refine wpList_nil ?_
            refine zBj ?_
            exact ⟨_, by omega, i + 1, rfl, by omega, zGc hok hil (by
              unfold zHm; rw [← hp]
              refine ⟨by simpa using hb16, ?_, ?_, by simpa using hb29, fun h0 => ?_⟩
              · simp at hb23; omega
              · simp at hb23; omega
              · first | (simpa using hb) | exact absurd h0 (by omega)), S.tail, E.keep (zAa rfl (zAa rfl (zAa rfl (zAa rfl zAm))))⟩
  · replace hb := Nrm.nrm hb
    refine wp_exit ?_
    refine zBa ?_; clear hK; clear K
    refine zBa ?_
    refine zCg ?_
    refine zAf hK ?_; clear hK; clear K
    refine wp_seq_k ?_; intro K hK
    refine zAb ?_
    refine zp E (zAe E rfl rfl) ?_; clear E a; intro a E
    refine zp E (by first | exact zBu E rfl rfl rfl | exact zAx E rfl rfl rfl | exact zAq E rfl rfl rfl) ?_; clear E a; intro a E
    refine zp E (zDx E rfl rfl rfl) ?_; clear E a; intro a E
    refine zp E (zAd E rfl rfl) ?_; clear E a; intro a E
    refine wpList_nil ?_
    refine zAf hK ?_; clear hK; clear K
    refine wp_ret ?_
    refine ret1 E rfl rfl ?_
    exact ⟨_, rfl, by congr 1; rw [Bool.eq_iff_iff, prps_end (l := l) (fun k hk => hok k hk (by omega))]; simp; omega, S.tr⟩
end Go.Proofs.YtbogecljkaimdaaGreatDoor
namespace Go.Sl
noncomputable def may1 (r : Rec) : Bool := zFj r.name && decide (1 ≤ r.many ∧ r.many ≤ 120)
noncomputable def may3 (r : Rec) : Bool := risB r.keep 1 1048576
noncomputable def may4 (r : Rec) : Bool := decide (1 ≤ r.object ∧ r.object ≤ 1048576) && (decide (0 < r.keep.length) && risB r.keep (-1) 255)
noncomputable def may5 (r : Rec) : Bool := decide (1 ≤ r.object ∧ r.object ≤ 1048576) && (decide (-1 ≤ r.at_ ∧ r.at_ ≤ 255) && decide (1 ≤ (r.data.length : Int) ∧ (r.data.length : Int) ≤ 256))
noncomputable def may6 (r : Rec) : Bool := decide (1 ≤ r.many ∧ r.many ≤ 1048576)
def zCs (r : Rec) : Bool := decide (r.name = []) && (decide (r.snap = []) && (decide (r.typ = 0) && (decide (r.frm = 0) && (decide (r.guid = 0) && (decide (r.origin = 0) && (decide (r.object = 0) && (decide (r.at_ = 0) && (decide (r.many = 0) &&
  decide (r.props.length + r.keep.length + r.data.length = 0)))))))))
def zDr (r : Rec) : Rec :=
  if r.kind = 1 then { r with name := [], many := 0 } else if r.kind = 2 then { r with name := [], typ := 0, frm := 0, guid := 0, origin := 0, snap := [], props := [] }
  else if r.kind = 3 then { r with keep := [] } else if r.kind = 4 then { r with object := 0, keep := [] } else if r.kind = 5 then { r with object := 0, at_ := 0, data := [] } else { r with many := 0 }
end Go.Sl
namespace Go.Proofs.YtbogecljkaimdaaGreatDoor
open Go.Sl
set_option maxRecDepth 10000
section
variable {C : zAw} {r : Rec} {pv kv dv : Value} (hR : RecR C r pv kv dv) (hs : Sml r) {As : List zAw} (hC : C ∈ As) (w0 : World) (H : Hp w0 As)
include hR hs hC H
theorem may1_ret : Ret Tryz.prog 47 #[.agg (r.cells pv kv dv).toArray] w0 fun u w' => u = .bool (may1 r) ∧ Trs w0 w' As As := by
  have _ := hR
  have _ := hC
  have S := St.begin H
  have := hs.name
  refine zCu 11 Tryz.func47 rfl rfl (by decide) ?_; intro a E
  refine wp_seq_k ?_; intro K hK
  refine zAb ?_
  refine zAo rfl (zCm E S rfl rfl (by decide) rfl rfl ?_); clear E S a; intro a w b1 E S
  refine zp E (zAd E rfl rfl) ?_; clear E a; intro a E
  refine wpList_nil ?_
  refine zAf hK ?_; clear hK; clear K
  refine wp_seq_k ?_; intro K hK
  refine zAb ?_
  refine zp E (by first | exact zAg (q := 1) E rfl rfl rfl | exact zAh (q := 1) E rfl rfl rfl) ?_; clear E a; intro a E
  refine zp E (by first | exact zAn E rfl rfl rfl (S.get (by repeat (first | exact pk1 | apply zAc))) rfl | exact zAj E rfl rfl rfl (by assumption)) ?_; clear E a; intro a E
  refine zAp E rfl rfl (by decide) rfl Tryz.func48 rfl (by kernel_rfl) rfl (zIi r.name (by omega) _ _ S.hp) ?_
  rintro v5 w ⟨rfl, hT⟩; clear E a; intro a E
  have S := S.all hT
  refine zp E (zAe E rfl rfl) ?_; clear E a; intro a E
  refine zAr E (t := 6) rfl (fun hb6 => ?_) (fun hb6 => ?_)
  · have hb6n := hb6; replace hb6n := Nrm.nrm hb6n
    refine zy E hb6 (by first | exact zAg (q := 10) E rfl rfl rfl | exact zAh (q := 10) E rfl rfl rfl) ?_; clear E a; intro a E
    refine zy E hb6 (by first | exact zAn E rfl rfl rfl (S.get (by repeat (first | exact pk1 | apply zAc))) rfl | exact zAj E rfl rfl rfl (by assumption)) ?_; clear E a; intro a E
    refine zBx E rfl rfl rfl rfl hb6 ?_; refine zCo E rfl (by decide) rfl Tryz.func49 rfl (by kernel_rfl) rfl (zDs r.many 1 120 _ _ S.hp) ?_
    rintro v9 w ⟨rfl, hT⟩; clear E a; intro a E
    have S := S.all hT
    refine zp E (zAk E rfl rfl hb6 rfl) ?_; clear E a; intro a E
    refine zp E (zAd E rfl rfl) ?_; clear E a; intro a E
    refine wpList_nil ?_
    refine zAf hK ?_; clear hK; clear K
    refine wp_ret ?_
    refine ret1 E rfl rfl ?_
    exact ⟨_, rfl, by simp [may1, hb6], S.tail.tr⟩
  · have hb6n := hb6; replace hb6n := Nrm.nrm hb6n
    iterate 3 (refine zn E hb6 ?_; clear E a; intro a E)
    refine zp E (zAi E rfl rfl hb6 rfl) ?_; clear E a; intro a E
    refine zp E (zAd E rfl rfl) ?_; clear E a; intro a E
    refine wpList_nil ?_
    refine zAf hK ?_; clear hK; clear K
    refine wp_ret ?_
    refine ret1 E rfl rfl ?_
    exact ⟨_, rfl, by simp [may1, hb6], S.tail.tr⟩
theorem may3_ret : Ret Tryz.prog 55 #[.agg (r.cells pv kv dv).toArray] w0 fun u w' => u = .bool (may3 r) ∧ Trs w0 w' As As := by
  have S := St.begin H
  have := hs.keep
  refine zCu 6 Tryz.func55 rfl rfl (by decide) ?_; intro a E
  refine wp_seq_k ?_; intro K hK
  refine zAb ?_
  refine zAo rfl (zCm E S rfl rfl (by decide) rfl rfl ?_); clear E S a; intro a w b1 E S
  refine zp E (zAd E rfl rfl) ?_; clear E a; intro a E
  refine wpList_nil ?_
  refine zAf hK ?_; clear hK; clear K
  refine wp_seq_k ?_; intro K hK
  refine zAb ?_
  refine zp E (by first | exact zAg (q := 11) E rfl rfl rfl | exact zAh (q := 11) E rfl rfl rfl) ?_; clear E a; intro a E
  refine zp E (by first | exact zAn E rfl rfl rfl (S.get (by repeat (first | exact pk1 | apply zAc))) rfl | exact zAj E rfl rfl rfl (by assumption)) ?_; clear E a; intro a E
  refine zAp E rfl rfl (by decide) rfl Tryz.func56 rfl (by kernel_rfl) rfl (ris_ret C kv r.keep hR.kr (by omega) 1 1048576 _ (List.mem_cons_of_mem _ hC) _ S.hp) ?_
  rintro v5 w ⟨rfl, hT⟩; clear E a; intro a E
  have S := S.all hT
  refine zp E (zAd E rfl rfl) ?_; clear E a; intro a E
  refine wpList_nil ?_
  refine zAf hK ?_; clear hK; clear K
  refine wp_ret ?_
  refine ret1 E rfl rfl ?_
  exact ⟨_, rfl, rfl, S.tail.tr⟩
theorem may4_ret : Ret Tryz.prog 61 #[.agg (r.cells pv kv dv).toArray] w0 fun u w' => u = .bool (may4 r) ∧ Trs w0 w' As As := by
  have S := St.begin H
  have := hs.keep
  have hk := hR.kr
  obtain ⟨ad, c, rfl⟩ := hk.slice
  refine zCu 17 Tryz.func61 rfl rfl (by decide) ?_; intro a E
  refine wp_seq_k ?_; intro K hK
  refine zAb ?_
  refine zAo rfl (zCm E S rfl rfl (by decide) rfl rfl ?_); clear E S a; intro a w b1 E S
  refine zp E (zAd E rfl rfl) ?_; clear E a; intro a E
  refine wpList_nil ?_
  refine zAf hK ?_; clear hK; clear K
  refine wp_seq_k ?_; intro K hK
  refine zAb ?_
  refine zp E (by first | exact zAg (q := 8) E rfl rfl rfl | exact zAh (q := 8) E rfl rfl rfl) ?_; clear E a; intro a E
  refine zp E (by first | exact zAn E rfl rfl rfl (S.get (by repeat (first | exact pk1 | apply zAc))) rfl | exact zAj E rfl rfl rfl (by assumption)) ?_; clear E a; intro a E
  refine zAp E rfl rfl (by decide) rfl Tryz.func49 rfl (by kernel_rfl) rfl (zDs r.object 1 1048576 _ _ S.hp) ?_
  rintro v5 w ⟨rfl, hT⟩; clear E a; intro a E
  have S := S.all hT
  refine zp E (zAe E rfl rfl) ?_; clear E a; intro a E
  refine zAr E (t := 6) rfl (fun hb6 => ?_) (fun hb6 => ?_)
  · have hb6n := hb6; replace hb6n := Nrm.nrm hb6n
    refine zy E hb6 (by first | exact zAg (q := 11) E rfl rfl rfl | exact zAh (q := 11) E rfl rfl rfl) ?_; clear E a; intro a E
    refine zy E hb6 (by first | exact zAn E rfl rfl rfl (S.get (by repeat (first | exact pk1 | apply zAc))) rfl | exact zAj E rfl rfl rfl (by assumption)) ?_; clear E a; intro a E
    refine zy E hb6 (by first | exact zBu E rfl rfl rfl | exact zAx E rfl rfl rfl | exact zAq E rfl rfl rfl) ?_; clear E a; intro a E
    refine zy E hb6 (zDt E rfl rfl rfl) ?_; clear E a; intro a E
    refine zp E (zAk E rfl rfl hb6 rfl) ?_; clear E a; intro a E
    refine zp E (zAe E rfl rfl) ?_; clear E a; intro a E
    refine zAr E (t := 12) rfl (fun hb12 => ?_) (fun hb12 => ?_)
    · have hb12n := hb12; replace hb12n := Nrm.nrm hb12n
      refine zy E hb12 (by first | exact zAg (q := 11) E rfl rfl rfl | exact zAh (q := 11) E rfl rfl rfl) ?_; clear E a; intro a E
      refine zy E hb12 (by first | exact zAn E rfl rfl rfl (S.get (by repeat (first | exact pk1 | apply zAc))) rfl | exact zAj E rfl rfl rfl (by assumption)) ?_; clear E a; intro a E
      refine zBx E rfl rfl rfl rfl hb12 ?_; refine zCo E rfl (by decide) rfl Tryz.func56 rfl (by kernel_rfl) rfl (ris_ret C _ r.keep hk (by omega) (-1) 255 _ (List.mem_cons_of_mem _ hC) _ S.hp) ?_
      rintro v15 w ⟨rfl, hT⟩; clear E a; intro a E
      have S := S.all hT
      refine zp E (zAk E rfl rfl hb12 rfl) ?_; clear E a; intro a E
      refine zp E (zAd E rfl rfl) ?_; clear E a; intro a E
      refine wpList_nil ?_
      refine zAf hK ?_; clear hK; clear K
      refine wp_ret ?_
      refine ret1 E rfl rfl ?_
      exact ⟨_, rfl, by congr 1; simp only [may4]; simp_all <;> (intros; omega), S.tail.tr⟩
    · have hb12n := hb12; replace hb12n := Nrm.nrm hb12n
      iterate 3 (refine zn E hb12 ?_; clear E a; intro a E)
      refine zp E (zAi E rfl rfl hb12 rfl) ?_; clear E a; intro a E
      refine zp E (zAd E rfl rfl) ?_; clear E a; intro a E
      refine wpList_nil ?_
      refine zAf hK ?_; clear hK; clear K
      refine wp_ret ?_
      refine ret1 E rfl rfl ?_
      exact ⟨_, rfl, by congr 1; simp only [may4]; simp_all <;> (intros; omega), S.tail.tr⟩
  · have hb6n := hb6; replace hb6n := Nrm.nrm hb6n
    iterate 4 (refine zn E hb6 ?_; clear E a; intro a E)
    refine zp E (zAi E rfl rfl hb6 rfl) ?_; clear E a; intro a E
    refine zp E (zAe E rfl rfl) ?_; clear E a; intro a E
    iterate 3 (refine zn E rfl ?_; clear E a; intro a E)
    refine zp E (zAi E rfl rfl rfl rfl) ?_; clear E a; intro a E
    refine zp E (zAd E rfl rfl) ?_; clear E a; intro a E
    refine wpList_nil ?_
    refine zAf hK ?_; clear hK; clear K
    refine wp_ret ?_
    refine ret1 E rfl rfl ?_
    exact ⟨_, rfl, by congr 1; simp only [may4]; simp_all <;> (intros; omega), S.tail.tr⟩
theorem may5_ret : Ret Tryz.prog 64 #[.agg (r.cells pv kv dv).toArray] w0 fun u w' => u = .bool (may5 r) ∧ Trs w0 w' As As := by
  have _ := hs
  have _ := hC
  have S := St.begin H
  have hk := hR.dr
  obtain ⟨ad, c, rfl⟩ := hk.slice
  refine zCu 17 Tryz.func64 rfl rfl (by decide) ?_; intro a E
  refine wp_seq_k ?_; intro K hK
  refine zAb ?_
  refine zAo rfl (zCm E S rfl rfl (by decide) rfl rfl ?_); clear E S a; intro a w b1 E S
  refine zp E (zAd E rfl rfl) ?_; clear E a; intro a E
  refine wpList_nil ?_
  refine zAf hK ?_; clear hK; clear K
  refine wp_seq_k ?_; intro K hK
  refine zAb ?_
  refine zp E (by first | exact zAg (q := 8) E rfl rfl rfl | exact zAh (q := 8) E rfl rfl rfl) ?_; clear E a; intro a E
  refine zp E (by first | exact zAn E rfl rfl rfl (S.get (by repeat (first | exact pk1 | apply zAc))) rfl | exact zAj E rfl rfl rfl (by assumption)) ?_; clear E a; intro a E
  refine zAp E rfl rfl (by decide) rfl Tryz.func49 rfl (by kernel_rfl) rfl (zDs r.object 1 1048576 _ _ S.hp) ?_
  rintro v5 w ⟨rfl, hT⟩; clear E a; intro a E
  have S := S.all hT
  refine zp E (zAe E rfl rfl) ?_; clear E a; intro a E
  refine zAr E (t := 6) rfl (fun hb6 => ?_) (fun hb6 => ?_)
  · have hb6n := hb6; replace hb6n := Nrm.nrm hb6n
    refine zy E hb6 (by first | exact zAg (q := 9) E rfl rfl rfl | exact zAh (q := 9) E rfl rfl rfl) ?_; clear E a; intro a E
    refine zy E hb6 (by first | exact zAn E rfl rfl rfl (S.get (by repeat (first | exact pk1 | apply zAc))) rfl | exact zAj E rfl rfl rfl (by assumption)) ?_; clear E a; intro a E
    refine zBx E rfl rfl rfl rfl hb6 ?_; refine zCo E rfl (by decide) rfl Tryz.func49 rfl (by kernel_rfl) rfl (zDs r.at_ (-1) 255 _ _ S.hp) ?_
    rintro v9 w ⟨rfl, hT⟩; clear E a; intro a E
    have S := S.all hT
    refine zp E (zAk E rfl rfl hb6 rfl) ?_; clear E a; intro a E
    refine zp E (zAe E rfl rfl) ?_; clear E a; intro a E
    refine zAr E (t := 11) rfl (fun hb11 => ?_) (fun hb11 => ?_)
    · have hb11n := hb11; replace hb11n := Nrm.nrm hb11n
      refine zy E hb11 (by first | exact zAg (q := 12) E rfl rfl rfl | exact zAh (q := 12) E rfl rfl rfl) ?_; clear E a; intro a E
      refine zy E hb11 (by first | exact zAn E rfl rfl rfl (S.get (by repeat (first | exact pk1 | apply zAc))) rfl | exact zAj E rfl rfl rfl (by assumption)) ?_; clear E a; intro a E
      refine zy E hb11 (by first | exact zBu E rfl rfl rfl | exact zAx E rfl rfl rfl | exact zAq E rfl rfl rfl) ?_; clear E a; intro a E
      refine zBx E rfl rfl rfl rfl hb11 ?_; refine zCo E rfl (by decide) rfl Tryz.func49 rfl (by kernel_rfl) rfl (zDs r.data.length 1 256 _ _ S.hp) ?_
      rintro v15 w ⟨rfl, hT⟩; clear E a; intro a E
      have S := S.all hT
      refine zp E (zAk E rfl rfl hb11 rfl) ?_; clear E a; intro a E
      refine zp E (zAd E rfl rfl) ?_; clear E a; intro a E
      refine wpList_nil ?_
      refine zAf hK ?_; clear hK; clear K
      refine wp_ret ?_
      refine ret1 E rfl rfl ?_
      exact ⟨_, rfl, by congr 1; simp only [may5]; simp_all <;> (intros; omega), S.tail.tr⟩
    · have hb11n := hb11; replace hb11n := Nrm.nrm hb11n
      iterate 4 (refine zn E hb11 ?_; clear E a; intro a E)
      refine zp E (zAi E rfl rfl hb11 rfl) ?_; clear E a; intro a E
      refine zp E (zAd E rfl rfl) ?_; clear E a; intro a E
      refine wpList_nil ?_
      refine zAf hK ?_; clear hK; clear K
      refine wp_ret ?_
      refine ret1 E rfl rfl ?_
      exact ⟨_, rfl, by congr 1; simp only [may5]; simp_all <;> (intros; omega), S.tail.tr⟩
  · have hb6n := hb6; replace hb6n := Nrm.nrm hb6n
    iterate 3 (refine zn E hb6 ?_; clear E a; intro a E)
    refine zp E (zAi E rfl rfl hb6 rfl) ?_; clear E a; intro a E
    refine zp E (zAe E rfl rfl) ?_; clear E a; intro a E
    iterate 4 (refine zn E rfl ?_; clear E a; intro a E)
    refine zp E (zAi E rfl rfl rfl rfl) ?_; clear E a; intro a E
    refine zp E (zAd E rfl rfl) ?_; clear E a; intro a E
    refine wpList_nil ?_
    refine zAf hK ?_; clear hK; clear K
    refine wp_ret ?_
    refine ret1 E rfl rfl ?_
    exact ⟨_, rfl, by congr 1; simp only [may5]; simp_all <;> (intros; omega), S.tail.tr⟩
theorem may6_ret : Ret Tryz.prog 99 #[.agg (r.cells pv kv dv).toArray] w0 fun u w' => u = .bool (may6 r) ∧ Trs w0 w' As As := by
  have _ := hR
  have _ := hs
  have _ := hC
  have S := St.begin H
  refine zCu 6 Tryz.func99 rfl rfl (by decide) ?_; intro a E
  refine wp_seq_k ?_; intro K hK
  refine zAb ?_
  refine zAo rfl (zCm E S rfl rfl (by decide) rfl rfl ?_); clear E S a; intro a w b1 E S
  refine zp E (zAd E rfl rfl) ?_; clear E a; intro a E
  refine wpList_nil ?_
  refine zAf hK ?_; clear hK; clear K
  refine wp_seq_k ?_; intro K hK
  refine zAb ?_
  refine zp E (by first | exact zAg (q := 10) E rfl rfl rfl | exact zAh (q := 10) E rfl rfl rfl) ?_; clear E a; intro a E
  refine zp E (by first | exact zAn E rfl rfl rfl (S.get (by repeat (first | exact pk1 | apply zAc))) rfl | exact zAj E rfl rfl rfl (by assumption)) ?_; clear E a; intro a E
  refine zAp E rfl rfl (by decide) rfl Tryz.func49 rfl (by kernel_rfl) rfl (zDs r.many 1 1048576 _ _ S.hp) ?_
  rintro v5 w ⟨rfl, hT⟩; clear E a; intro a E
  have S := S.all hT
  refine zp E (zAd E rfl rfl) ?_; clear E a; intro a E
  refine wpList_nil ?_
  refine zAf hK ?_; clear hK; clear K
  refine wp_ret ?_
  refine ret1 E rfl rfl ?_
  exact ⟨_, rfl, rfl, S.tail.tr⟩
omit hC in
theorem empty_ret : Ret Tryz.prog 26 #[.agg (r.cells pv kv dv).toArray] w0 fun u w' => u = .bool (zCs r) ∧ Trs w0 w' As As := by
  have S := St.begin H
  have h1 := hs.props
  have h2 := hs.keep
  have h3 := hs.data
  obtain ⟨ad1, c1, rfl⟩ := hR.pr.slice
  obtain ⟨ad2, c2, rfl⟩ := hR.kr.slice
  obtain ⟨ad3, c3, rfl⟩ := hR.dr.slice
  refine zCu 60 Tryz.func26 rfl rfl (by decide) ?_; intro a E
  refine wp_seq_k ?_; intro K hK
  refine zAb ?_
  refine zAo rfl (zCm E S rfl rfl (by decide) rfl rfl ?_); clear E S a; intro a w b1 E S
  refine zp E (zAd E rfl rfl) ?_; clear E a; intro a E
  refine wpList_nil ?_
  refine zAf hK ?_; clear hK; clear K
  refine wp_seq_k ?_; intro K hK
  refine zAb ?_
  refine zp E (by first | exact zAg (q := 1) E rfl rfl rfl | exact zAh (q := 1) E rfl rfl rfl) ?_; clear E a; intro a E
  refine zp E (by first | exact zAn E rfl rfl rfl (S.get (by repeat (first | exact pk1 | apply zAc))) rfl | exact zAj E rfl rfl rfl (by assumption)) ?_; clear E a; intro a E
  refine zp E (by first | exact zCc E rfl rfl rfl | exact zAs E rfl rfl rfl rfl | exact zBb E rfl rfl rfl rfl | exact zAt E rfl rfl rfl) ?_; clear E a; intro a E
  refine zp E (zAe E rfl rfl) ?_; clear E a; intro a E
  refine zAr E (t := 6) rfl (fun hb6 => ?_) (fun hb6 => ?_)
  · have hb6n := hb6; replace hb6n := Nrm.nrm hb6n
    refine zy E hb6 (by first | exact zAg (q := 6) E rfl rfl rfl | exact zAh (q := 6) E rfl rfl rfl) ?_; clear E a; intro a E
    refine zy E hb6 (by first | exact zAn E rfl rfl rfl (S.get (by repeat (first | exact pk1 | apply zAc))) rfl | exact zAj E rfl rfl rfl (by assumption)) ?_; clear E a; intro a E
    refine zy E hb6 (by first | exact zCc E rfl rfl rfl | exact zAs E rfl rfl rfl rfl | exact zBb E rfl rfl rfl rfl | exact zAt E rfl rfl rfl) ?_; clear E a; intro a E
    refine zp E (zAk E rfl rfl hb6 rfl) ?_; clear E a; intro a E
    refine zp E (zAe E rfl rfl) ?_; clear E a; intro a E
    refine zAr E (t := 11) rfl (fun hb11 => ?_) (fun hb11 => ?_)
    · have hb11n := hb11; replace hb11n := Nrm.nrm hb11n
      refine zy E hb11 (by first | exact zAg (q := 2) E rfl rfl rfl | exact zAh (q := 2) E rfl rfl rfl) ?_; clear E a; intro a E
      refine zy E hb11 (by first | exact zAn E rfl rfl rfl (S.get (by repeat (first | exact pk1 | apply zAc))) rfl | exact zAj E rfl rfl rfl (by assumption)) ?_; clear E a; intro a E
      refine zy E hb11 (by first | exact zCc E rfl rfl rfl | exact zAs E rfl rfl rfl rfl | exact zBb E rfl rfl rfl rfl | exact zAt E rfl rfl rfl) ?_; clear E a; intro a E
      refine zp E (zAk E rfl rfl hb11 rfl) ?_; clear E a; intro a E
      refine zp E (zAe E rfl rfl) ?_; clear E a; intro a E
      refine zAr E (t := 16) rfl (fun hb16 => ?_) (fun hb16 => ?_)
      · have hb16n := hb16; replace hb16n := Nrm.nrm hb16n
        refine zy E hb16 (by first | exact zAg (q := 3) E rfl rfl rfl | exact zAh (q := 3) E rfl rfl rfl) ?_; clear E a; intro a E
        refine zy E hb16 (by first | exact zAn E rfl rfl rfl (S.get (by repeat (first | exact pk1 | apply zAc))) rfl | exact zAj E rfl rfl rfl (by assumption)) ?_; clear E a; intro a E
        refine zy E hb16 (by first | exact zCc E rfl rfl rfl | exact zAs E rfl rfl rfl rfl | exact zBb E rfl rfl rfl rfl | exact zAt E rfl rfl rfl) ?_; clear E a; intro a E
        refine zp E (zAk E rfl rfl hb16 rfl) ?_; clear E a; intro a E
        refine zp E (zAe E rfl rfl) ?_; clear E a; intro a E
        refine zAr E (t := 21) rfl (fun hb21 => ?_) (fun hb21 => ?_)
        · have hb21n := hb21; replace hb21n := Nrm.nrm hb21n
          refine zy E hb21 (by first | exact zAg (q := 4) E rfl rfl rfl | exact zAh (q := 4) E rfl rfl rfl) ?_; clear E a; intro a E
          refine zy E hb21 (by first | exact zAn E rfl rfl rfl (S.get (by repeat (first | exact pk1 | apply zAc))) rfl | exact zAj E rfl rfl rfl (by assumption)) ?_; clear E a; intro a E
          refine zy E hb21 (by first | exact zCc E rfl rfl rfl | exact zAs E rfl rfl rfl rfl | exact zBb E rfl rfl rfl rfl | exact zAt E rfl rfl rfl) ?_; clear E a; intro a E
          refine zp E (zAk E rfl rfl hb21 rfl) ?_; clear E a; intro a E
          refine zp E (zAe E rfl rfl) ?_; clear E a; intro a E
          refine zAr E (t := 26) rfl (fun hb26 => ?_) (fun hb26 => ?_)
          · have hb26n := hb26; replace hb26n := Nrm.nrm hb26n
            refine zy E hb26 (by first | exact zAg (q := 5) E rfl rfl rfl | exact zAh (q := 5) E rfl rfl rfl) ?_; clear E a; intro a E
            refine zy E hb26 (by first | exact zAn E rfl rfl rfl (S.get (by repeat (first | exact pk1 | apply zAc))) rfl | exact zAj E rfl rfl rfl (by assumption)) ?_; clear E a; intro a E
            refine zy E hb26 (by first | exact zCc E rfl rfl rfl | exact zAs E rfl rfl rfl rfl | exact zBb E rfl rfl rfl rfl | exact zAt E rfl rfl rfl) ?_; clear E a; intro a E
            refine zp E (zAk E rfl rfl hb26 rfl) ?_; clear E a; intro a E
            refine zp E (zAe E rfl rfl) ?_; clear E a; intro a E
            refine zAr E (t := 31) rfl (fun hb31 => ?_) (fun hb31 => ?_)
            · have hb31n := hb31; replace hb31n := Nrm.nrm hb31n
              refine zy E hb31 (by first | exact zAg (q := 8) E rfl rfl rfl | exact zAh (q := 8) E rfl rfl rfl) ?_; clear E a; intro a E
              refine zy E hb31 (by first | exact zAn E rfl rfl rfl (S.get (by repeat (first | exact pk1 | apply zAc))) rfl | exact zAj E rfl rfl rfl (by assumption)) ?_; clear E a; intro a E
              refine zy E hb31 (by first | exact zCc E rfl rfl rfl | exact zAs E rfl rfl rfl rfl | exact zBb E rfl rfl rfl rfl | exact zAt E rfl rfl rfl) ?_; clear E a; intro a E
              refine zp E (zAk E rfl rfl hb31 rfl) ?_; clear E a; intro a E
              refine zp E (zAe E rfl rfl) ?_; clear E a; intro a E
              refine zAr E (t := 36) rfl (fun hb36 => ?_) (fun hb36 => ?_)
              · have hb36n := hb36; replace hb36n := Nrm.nrm hb36n
                refine zy E hb36 (by first | exact zAg (q := 9) E rfl rfl rfl | exact zAh (q := 9) E rfl rfl rfl) ?_; clear E a; intro a E
                refine zy E hb36 (by first | exact zAn E rfl rfl rfl (S.get (by repeat (first | exact pk1 | apply zAc))) rfl | exact zAj E rfl rfl rfl (by assumption)) ?_; clear E a; intro a E
                refine zy E hb36 (by first | exact zCc E rfl rfl rfl | exact zAs E rfl rfl rfl rfl | exact zBb E rfl rfl rfl rfl | exact zAt E rfl rfl rfl) ?_; clear E a; intro a E
                refine zp E (zAk E rfl rfl hb36 rfl) ?_; clear E a; intro a E
                refine zp E (zAe E rfl rfl) ?_; clear E a; intro a E
                refine zAr E (t := 41) rfl (fun hb41 => ?_) (fun hb41 => ?_)
                · have hb41n := hb41; replace hb41n := Nrm.nrm hb41n
                  refine zy E hb41 (by first | exact zAg (q := 10) E rfl rfl rfl | exact zAh (q := 10) E rfl rfl rfl) ?_; clear E a; intro a E
                  refine zy E hb41 (by first | exact zAn E rfl rfl rfl (S.get (by repeat (first | exact pk1 | apply zAc))) rfl | exact zAj E rfl rfl rfl (by assumption)) ?_; clear E a; intro a E
                  refine zy E hb41 (by first | exact zCc E rfl rfl rfl | exact zAs E rfl rfl rfl rfl | exact zBb E rfl rfl rfl rfl | exact zAt E rfl rfl rfl) ?_; clear E a; intro a E
                  refine zp E (zAk E rfl rfl hb41 rfl) ?_; clear E a; intro a E
                  refine zp E (zAe E rfl rfl) ?_; clear E a; intro a E
                  refine zAr E (t := 46) rfl (fun hb46 => ?_) (fun hb46 => ?_)
                  · have hb46n := hb46; replace hb46n := Nrm.nrm hb46n
                    refine zy E hb46 (by first | exact zAg (q := 7) E rfl rfl rfl | exact zAh (q := 7) E rfl rfl rfl) ?_; clear E a; intro a E
                    refine zy E hb46 (by first | exact zAn E rfl rfl rfl (S.get (by repeat (first | exact pk1 | apply zAc))) rfl | exact zAj E rfl rfl rfl (by assumption)) ?_; clear E a; intro a E
                    refine zy E hb46 (by first | exact zBu E rfl rfl rfl | exact zAx E rfl rfl rfl | exact zAq E rfl rfl rfl) ?_; clear E a; intro a E
                    refine zy E hb46 (by first | exact zAg (q := 11) E rfl rfl rfl | exact zAh (q := 11) E rfl rfl rfl) ?_; clear E a; intro a E
                    refine zy E hb46 (by first | exact zAn E rfl rfl rfl (S.get (by repeat (first | exact pk1 | apply zAc))) rfl | exact zAj E rfl rfl rfl (by assumption)) ?_; clear E a; intro a E
                    refine zy E hb46 (by first | exact zBu E rfl rfl rfl | exact zAx E rfl rfl rfl | exact zAq E rfl rfl rfl) ?_; clear E a; intro a E
                    refine zy E hb46 (zBt E rfl rfl rfl (by first | exact wa1 (by omega) | exact w_in (by omega) | exact zBw (by omega) | exact rfl)) ?_; clear E a; intro a E
                    refine zy E hb46 (by first | exact zAg (q := 12) E rfl rfl rfl | exact zAh (q := 12) E rfl rfl rfl) ?_; clear E a; intro a E
                    refine zy E hb46 (by first | exact zAn E rfl rfl rfl (S.get (by repeat (first | exact pk1 | apply zAc))) rfl | exact zAj E rfl rfl rfl (by assumption)) ?_; clear E a; intro a E
                    refine zy E hb46 (by first | exact zBu E rfl rfl rfl | exact zAx E rfl rfl rfl | exact zAq E rfl rfl rfl) ?_; clear E a; intro a E
                    refine zy E hb46 (zBt E rfl rfl rfl (by first | exact wa1 (by omega) | exact w_in (by omega) | exact zBw (by omega) | exact rfl)) ?_; clear E a; intro a E
                    refine zy E hb46 (by first | exact zCc E rfl rfl rfl | exact zAs E rfl rfl rfl rfl | exact zBb E rfl rfl rfl rfl | exact zAt E rfl rfl rfl) ?_; clear E a; intro a E
                    refine zp E (zAk E rfl rfl hb46 rfl) ?_; clear E a; intro a E
                    refine zp E (zAd E rfl rfl) ?_; clear E a; intro a E
                    refine wpList_nil ?_
                    refine zAf hK ?_; clear hK; clear K
                    refine wp_ret ?_
                    refine ret1 E rfl rfl ?_
                    refine ⟨_, rfl, ?_, S.tail.tr⟩
                    congr 1
                    clear S E H hR hs
                    unfold zCs
                    simp_all <;> first | (intros; omega) | (rw [Bool.eq_iff_iff]; simp only [beq_iff_eq, decide_eq_true_eq, Bool.and_eq_true, ← List.length_eq_zero_iff]; omega)
                  · have hb46n := hb46; replace hb46n := Nrm.nrm hb46n
                    iterate 12 (refine zn E hb46 ?_; clear E a; intro a E)
                    refine zp E (zAi E rfl rfl hb46 rfl) ?_; clear E a; intro a E
                    refine zp E (zAd E rfl rfl) ?_; clear E a; intro a E
                    refine wpList_nil ?_
                    refine zAf hK ?_; clear hK; clear K
                    refine wp_ret ?_
                    refine ret1 E rfl rfl ?_
                    refine ⟨_, rfl, ?_, S.tail.tr⟩
                    congr 1
                    clear S E H hR hs
                    unfold zCs
                    simp_all <;> first | (intros; omega) | (rw [Bool.eq_iff_iff]; simp only [beq_iff_eq, decide_eq_true_eq, Bool.and_eq_true, ← List.length_eq_zero_iff]; omega)
                · have hb41n := hb41; replace hb41n := Nrm.nrm hb41n
                  iterate 3 (refine zn E hb41 ?_; clear E a; intro a E)
                  refine zp E (zAi E rfl rfl hb41 rfl) ?_; clear E a; intro a E
                  refine zp E (zAe E rfl rfl) ?_; clear E a; intro a E
                  iterate 12 (refine zn E rfl ?_; clear E a; intro a E)
                  refine zp E (zAi E rfl rfl rfl rfl) ?_; clear E a; intro a E
                  refine zp E (zAd E rfl rfl) ?_; clear E a; intro a E
                  refine wpList_nil ?_
                  refine zAf hK ?_; clear hK; clear K
                  refine wp_ret ?_
                  refine ret1 E rfl rfl ?_
                  refine ⟨_, rfl, ?_, S.tail.tr⟩
                  congr 1
                  clear S E H hR hs
                  unfold zCs
                  simp_all <;> first | (intros; omega) | (rw [Bool.eq_iff_iff]; simp only [beq_iff_eq, decide_eq_true_eq, Bool.and_eq_true, ← List.length_eq_zero_iff]; omega)
              · have hb36n := hb36; replace hb36n := Nrm.nrm hb36n
                iterate 3 (refine zn E hb36 ?_; clear E a; intro a E)
                refine zp E (zAi E rfl rfl hb36 rfl) ?_; clear E a; intro a E
                refine zp E (zAe E rfl rfl) ?_; clear E a; intro a E
                iterate 3 (refine zn E rfl ?_; clear E a; intro a E)
                refine zp E (zAi E rfl rfl rfl rfl) ?_; clear E a; intro a E
                refine zp E (zAe E rfl rfl) ?_; clear E a; intro a E
                iterate 12 (refine zn E rfl ?_; clear E a; intro a E)
                refine zp E (zAi E rfl rfl rfl rfl) ?_; clear E a; intro a E
                refine zp E (zAd E rfl rfl) ?_; clear E a; intro a E
                refine wpList_nil ?_
                refine zAf hK ?_; clear hK; clear K
                refine wp_ret ?_
                refine ret1 E rfl rfl ?_
                refine ⟨_, rfl, ?_, S.tail.tr⟩
                congr 1
                clear S E H hR hs
                unfold zCs
                simp_all <;> first | (intros; omega) | (rw [Bool.eq_iff_iff]; simp only [beq_iff_eq, decide_eq_true_eq, Bool.and_eq_true, ← List.length_eq_zero_iff]; omega)
            · have hb31n := hb31; replace hb31n := Nrm.nrm hb31n
              iterate 3 (refine zn E hb31 ?_; clear E a; intro a E)
              refine zp E (zAi E rfl rfl hb31 rfl) ?_; clear E a; intro a E
              refine zp E (zAe E rfl rfl) ?_; clear E a; intro a E
              iterate 3 (refine zn E rfl ?_; clear E a; intro a E)
              refine zp E (zAi E rfl rfl rfl rfl) ?_; clear E a; intro a E
              refine zp E (zAe E rfl rfl) ?_; clear E a; intro a E
              iterate 3 (refine zn E rfl ?_; clear E a; intro a E)
              refine zp E (zAi E rfl rfl rfl rfl) ?_; clear E a; intro a E
              refine zp E (zAe E rfl rfl) ?_; clear E a; intro a E
              iterate 12 (refine zn E rfl ?_; clear E a; intro a E)
              refine zp E (zAi E rfl rfl rfl rfl) ?_; clear E a; intro a E
              refine zp E (zAd E rfl rfl) ?_; clear E a; intro a E
              refine wpList_nil ?_
              refine zAf hK ?_; clear hK; clear K
              refine wp_ret ?_
              refine ret1 E rfl rfl ?_
              refine ⟨_, rfl, ?_, S.tail.tr⟩
              congr 1
              clear S E H hR hs
              unfold zCs
              simp_all <;> first | (intros; omega) | (rw [Bool.eq_iff_iff]; simp only [beq_iff_eq, decide_eq_true_eq, Bool.and_eq_true, ← List.length_eq_zero_iff]; omega)
          · have hb26n := hb26; replace hb26n := Nrm.nrm hb26n
            iterate 3 (refine zn E hb26 ?_; clear E a; intro a E)
            refine zp E (zAi E rfl rfl hb26 rfl) ?_; clear E a; intro a E
            refine zp E (zAe E rfl rfl) ?_; clear E a; intro a E
            iterate 3 (refine zn E rfl ?_; clear E a; intro a E)
            refine zp E (zAi E rfl rfl rfl rfl) ?_; clear E a; intro a E
            refine zp E (zAe E rfl rfl) ?_; clear E a; intro a E
            iterate 3 (refine zn E rfl ?_; clear E a; intro a E)
            refine zp E (zAi E rfl rfl rfl rfl) ?_; clear E a; intro a E
            refine zp E (zAe E rfl rfl) ?_; clear E a; intro a E
            iterate 3 (refine zn E rfl ?_; clear E a; intro a E)
            refine zp E (zAi E rfl rfl rfl rfl) ?_; clear E a; intro a E
            refine zp E (zAe E rfl rfl) ?_; clear E a; intro a E
            iterate 12 (refine zn E rfl ?_; clear E a; intro a E)
            refine zp E (zAi E rfl rfl rfl rfl) ?_; clear E a; intro a E
            refine zp E (zAd E rfl rfl) ?_; clear E a; intro a E
            refine wpList_nil ?_
            refine zAf hK ?_; clear hK; clear K
            refine wp_ret ?_
            refine ret1 E rfl rfl ?_
            refine ⟨_, rfl, ?_, S.tail.tr⟩
            congr 1
            clear S E H hR hs
            unfold zCs
            simp_all <;> first | (intros; omega) | (rw [Bool.eq_iff_iff]; simp only [beq_iff_eq, decide_eq_true_eq, Bool.and_eq_true, ← List.length_eq_zero_iff]; omega)
        · have hb21n := hb21; replace hb21n := Nrm.nrm hb21n
          iterate 3 (refine zn E hb21 ?_; clear E a; intro a E)
          refine zp E (zAi E rfl rfl hb21 rfl) ?_; clear E a; intro a E
          refine zp E (zAe E rfl rfl) ?_; clear E a; intro a E
          iterate 3 (refine zn E rfl ?_; clear E a; intro a E)
          refine zp E (zAi E rfl rfl rfl rfl) ?_; clear E a; intro a E
          refine zp E (zAe E rfl rfl) ?_; clear E a; intro a E
          iterate 3 (refine zn E rfl ?_; clear E a; intro a E)
          refine zp E (zAi E rfl rfl rfl rfl) ?_; clear E a; intro a E
          refine zp E (zAe E rfl rfl) ?_; clear E a; intro a E
          iterate 3 (refine zn E rfl ?_; clear E a; intro a E)
          refine zp E (zAi E rfl rfl rfl rfl) ?_; clear E a; intro a E
          refine zp E (zAe E rfl rfl) ?_; clear E a; intro a E
          iterate 3 (refine zn E rfl ?_; clear E a; intro a E)
          refine zp E (zAi E rfl rfl rfl rfl) ?_; clear E a; intro a E
          refine zp E (zAe E rfl rfl) ?_; clear E a; intro a E
          iterate 12 (refine zn E rfl ?_; clear E a; intro a E)
          refine zp E (zAi E rfl rfl rfl rfl) ?_; clear E a; intro a E
          refine zp E (zAd E rfl rfl) ?_; clear E a; intro a E
          refine wpList_nil ?_
          refine zAf hK ?_; clear hK; clear K
          refine wp_ret ?_
          refine ret1 E rfl rfl ?_
          refine ⟨_, rfl, ?_, S.tail.tr⟩
          congr 1
          clear S E H hR hs
          unfold zCs
          simp_all <;> first | (intros; omega) | (rw [Bool.eq_iff_iff]; simp only [beq_iff_eq, decide_eq_true_eq, Bool.and_eq_true, ← List.length_eq_zero_iff]; omega)
      · have hb16n := hb16; replace hb16n := Nrm.nrm hb16n
        iterate 3 (refine zn E hb16 ?_; clear E a; intro a E)
        refine zp E (zAi E rfl rfl hb16 rfl) ?_; clear E a; intro a E
        refine zp E (zAe E rfl rfl) ?_; clear E a; intro a E
        iterate 3 (refine zn E rfl ?_; clear E a; intro a E)
        refine zp E (zAi E rfl rfl rfl rfl) ?_; clear E a; intro a E
        refine zp E (zAe E rfl rfl) ?_; clear E a; intro a E
        iterate 3 (refine zn E rfl ?_; clear E a; intro a E)
        refine zp E (zAi E rfl rfl rfl rfl) ?_; clear E a; intro a E
        refine zp E (zAe E rfl rfl) ?_; clear E a; intro a E
        iterate 3 (refine zn E rfl ?_; clear E a; intro a E)
        refine zp E (zAi E rfl rfl rfl rfl) ?_; clear E a; intro a E
        refine zp E (zAe E rfl rfl) ?_; clear E a; intro a E
        iterate 3 (refine zn E rfl ?_; clear E a; intro a E)
        refine zp E (zAi E rfl rfl rfl rfl) ?_; clear E a; intro a E
        refine zp E (zAe E rfl rfl) ?_; clear E a; intro a E
        iterate 3 (refine zn E rfl ?_; clear E a; intro a E)
        refine zp E (zAi E rfl rfl rfl rfl) ?_; clear E a; intro a E
        refine zp E (zAe E rfl rfl) ?_; clear E a; intro a E
        iterate 12 (refine zn E rfl ?_; clear E a; intro a E)
        refine zp E (zAi E rfl rfl rfl rfl) ?_; clear E a; intro a E
        refine zp E (zAd E rfl rfl) ?_; clear E a; intro a E
        refine wpList_nil ?_
        refine zAf hK ?_; clear hK; clear K
        refine wp_ret ?_
        refine ret1 E rfl rfl ?_
        refine ⟨_, rfl, ?_, S.tail.tr⟩
        congr 1
        clear S E H hR hs
        unfold zCs
        simp_all <;> first | (intros; omega) | (rw [Bool.eq_iff_iff]; simp only [beq_iff_eq, decide_eq_true_eq, Bool.and_eq_true, ← List.length_eq_zero_iff]; omega)
    · have hb11n := hb11; replace hb11n := Nrm.nrm hb11n
      iterate 3 (refine zn E hb11 ?_; clear E a; intro a E)
      refine zp E (zAi E rfl rfl hb11 rfl) ?_; clear E a; intro a E
      refine zp E (zAe E rfl rfl) ?_; clear E a; intro a E
      iterate 3 (refine zn E rfl ?_; clear E a; intro a E)
      refine zp E (zAi E rfl rfl rfl rfl) ?_; clear E a; intro a E
      refine zp E (zAe E rfl rfl) ?_; clear E a; intro a E
      iterate 3 (refine zn E rfl ?_; clear E a; intro a E)
      refine zp E (zAi E rfl rfl rfl rfl) ?_; clear E a; intro a E
      refine zp E (zAe E rfl rfl) ?_; clear E a; intro a E
      iterate 3 (refine zn E rfl ?_; clear E a; intro a E)
      refine zp E (zAi E rfl rfl rfl rfl) ?_; clear E a; intro a E
      refine zp E (zAe E rfl rfl) ?_; clear E a; intro a E
      iterate 3 (refine zn E rfl ?_; clear E a; intro a E)
      refine zp E (zAi E rfl rfl rfl rfl) ?_; clear E a; intro a E
      refine zp E (zAe E rfl rfl) ?_; clear E a; intro a E
      iterate 3 (refine zn E rfl ?_; clear E a; intro a E)
      refine zp E (zAi E rfl rfl rfl rfl) ?_; clear E a; intro a E
      refine zp E (zAe E rfl rfl) ?_; clear E a; intro a E
      iterate 3 (refine zn E rfl ?_; clear E a; intro a E)
      refine zp E (zAi E rfl rfl rfl rfl) ?_; clear E a; intro a E
      refine zp E (zAe E rfl rfl) ?_; clear E a; intro a E
      iterate 12 (refine zn E rfl ?_; clear E a; intro a E)
      refine zp E (zAi E rfl rfl rfl rfl) ?_; clear E a; intro a E
      refine zp E (zAd E rfl rfl) ?_; clear E a; intro a E
      refine wpList_nil ?_
      refine zAf hK ?_; clear hK; clear K
      refine wp_ret ?_
      refine ret1 E rfl rfl ?_
      refine ⟨_, rfl, ?_, S.tail.tr⟩
      congr 1
      clear S E H hR hs
      unfold zCs
      simp_all <;> first | (intros; omega) | (rw [Bool.eq_iff_iff]; simp only [beq_iff_eq, decide_eq_true_eq, Bool.and_eq_true, ← List.length_eq_zero_iff]; omega)
  · have hb6n := hb6; replace hb6n := Nrm.nrm hb6n
    iterate 3 (refine zn E hb6 ?_; clear E a; intro a E)
    refine zp E (zAi E rfl rfl hb6 rfl) ?_; clear E a; intro a E
    refine zp E (zAe E rfl rfl) ?_; clear E a; intro a E
    iterate 3 (refine zn E rfl ?_; clear E a; intro a E)
    refine zp E (zAi E rfl rfl rfl rfl) ?_; clear E a; intro a E
    refine zp E (zAe E rfl rfl) ?_; clear E a; intro a E
    iterate 3 (refine zn E rfl ?_; clear E a; intro a E)
    refine zp E (zAi E rfl rfl rfl rfl) ?_; clear E a; intro a E
    refine zp E (zAe E rfl rfl) ?_; clear E a; intro a E
    iterate 3 (refine zn E rfl ?_; clear E a; intro a E)
    refine zp E (zAi E rfl rfl rfl rfl) ?_; clear E a; intro a E
    refine zp E (zAe E rfl rfl) ?_; clear E a; intro a E
    iterate 3 (refine zn E rfl ?_; clear E a; intro a E)
    refine zp E (zAi E rfl rfl rfl rfl) ?_; clear E a; intro a E
    refine zp E (zAe E rfl rfl) ?_; clear E a; intro a E
    iterate 3 (refine zn E rfl ?_; clear E a; intro a E)
    refine zp E (zAi E rfl rfl rfl rfl) ?_; clear E a; intro a E
    refine zp E (zAe E rfl rfl) ?_; clear E a; intro a E
    iterate 3 (refine zn E rfl ?_; clear E a; intro a E)
    refine zp E (zAi E rfl rfl rfl rfl) ?_; clear E a; intro a E
    refine zp E (zAe E rfl rfl) ?_; clear E a; intro a E
    iterate 3 (refine zn E rfl ?_; clear E a; intro a E)
    refine zp E (zAi E rfl rfl rfl rfl) ?_; clear E a; intro a E
    refine zp E (zAe E rfl rfl) ?_; clear E a; intro a E
    iterate 12 (refine zn E rfl ?_; clear E a; intro a E)
    refine zp E (zAi E rfl rfl rfl rfl) ?_; clear E a; intro a E
    refine zp E (zAd E rfl rfl) ?_; clear E a; intro a E
    refine wpList_nil ?_
    refine zAf hK ?_; clear hK; clear K
    refine wp_ret ?_
    refine ret1 E rfl rfl ?_
    refine ⟨_, rfl, ?_, S.tail.tr⟩
    congr 1
    clear S E H hR hs
    unfold zCs
    simp_all <;> first | (intros; omega) | (rw [Bool.eq_iff_iff]; simp only [beq_iff_eq, decide_eq_true_eq, Bool.and_eq_true, ← List.length_eq_zero_iff]; omega)
theorem begin_ret : Ret Tryz.prog 96 #[.agg (r.cells pv kv dv).toArray] w0 fun u w' => u = .bool (begB r) ∧ Trs w0 w' As As := by
  have S := St.begin H
  have h1 := hs.name
  have h2 := hs.snap
  refine zCu 60 Tryz.func96 rfl rfl (by decide) ?_; intro a E
  refine wp_seq_k ?_; intro K hK
  refine zAb ?_
  refine zAo rfl (zCm E S rfl rfl (by decide) rfl rfl ?_); clear E S a; intro a w b1 E S
  refine zp E (zAd E rfl rfl) ?_; clear E a; intro a E
  refine wpList_nil ?_
  refine zAf hK ?_; clear hK; clear K
  refine wp_seq_k ?_; intro K hK
  obtain ⟨nm, hnm⟩ : ∃ nm, nm = r.name := ⟨_, rfl⟩
  have hcells : r.cells pv kv dv = [.int .i64 r.kind, str nm, .int .i64 r.typ, .int .i64 r.frm, .int .i64 r.guid, .int .i64 r.origin, str r.snap, pv, .int .i64 r.object, .int .i64 r.at_, .int .i64 r.many, kv, dv] := (by rw [hnm]; rfl)
  rw [hcells] at S
  refine zEc (fun (a : Act) (w' : World) => St w0 As w' ([(b1, cel [.int .i64 r.kind, str nm, .int .i64 r.typ, .int .i64 r.frm, .int .i64 r.guid, .int .i64 r.origin, str r.snap, pv, .int .i64 r.object, .int .i64 r.at_, .int .i64 r.many, kv, dv] 26)] :: As) ∧ Fr a 60 [(1, ptr b1), (3, .bool (behB nm))]) ?_ ?_
  · skip
    refine zAb ?_
    refine zp E (by first | exact zAg (q := 1) E rfl rfl rfl | exact zAh (q := 1) E rfl rfl rfl) ?_; clear E a; intro a E
    refine zp E (by first | exact zAn E rfl rfl rfl (S.get (by repeat (first | exact pk1 | apply zAc))) rfl | exact zAj E rfl rfl rfl (by assumption)) ?_; clear E a; intro a E
    refine zp E (by first | exact zCc E rfl rfl rfl | exact zAs E rfl rfl rfl rfl | exact zBb E rfl rfl rfl rfl | exact zAt E rfl rfl rfl) ?_; clear E a; intro a E
    refine zp E (zAe E rfl rfl) ?_; clear E a; intro a E
    refine zAr E (t := 7) rfl (fun hb7 => ?_) (fun hb7 => ?_)
    · have hb7n := hb7; replace hb7n := Nrm.nrm hb7n
      iterate 5 (refine zn E hb7 ?_; clear E a; intro a E)
      iterate 4 (refine zu E ?_; clear E a; intro a E)
      refine zn E hb7 ?_; clear E a; intro a E
      refine zp E (zAk E rfl rfl hb7 rfl) ?_; clear E a; intro a E
      refine zp E (zAd E rfl rfl) ?_; clear E a; intro a E
      refine wpList_nil ?_
      refine zAv ?_
      subst hb7n; exact ⟨S, E.keep (zAa rfl (zAa rfl zAm))⟩
    · have hb7n := hb7; replace hb7n := Nrm.nrm hb7n
      obtain ⟨c0, tl, rfl⟩ := List.exists_cons_of_ne_nil hb7n
      refine zy E hb7 (by first | exact zAg (q := 1) E rfl rfl rfl | exact zAh (q := 1) E rfl rfl rfl) ?_; clear E a; intro a E
      refine zy E hb7 (by first | exact zAn E rfl rfl rfl (S.get (by repeat (first | exact pk1 | apply zAc))) rfl | exact zAj E rfl rfl rfl (by assumption)) ?_; clear E a; intro a E
      refine zy E hb7 (zCz (l := c0 :: tl) (i := 0) E rfl rfl rfl rfl rfl (Nat.succ_pos _)) ?_; clear E a; intro a E
      refine zy E hb7 (by first | exact zCc E rfl rfl rfl | exact zAs E rfl rfl rfl rfl | exact zBb E rfl rfl rfl rfl | exact zAt E rfl rfl rfl) ?_; clear E a; intro a E
      refine zy E hb7 (zAe E rfl rfl) ?_; clear E a; intro a E
      refine zAr E (t := 12) rfl (fun hb12 => ?_) (fun hb12 => ?_)
      · have hb12n := hb12; replace hb12n := Nrm.nrm hb12n
        refine zy E hb12 (by first | exact zAg (q := 1) E rfl rfl rfl | exact zAh (q := 1) E rfl rfl rfl) ?_; clear E a; intro a E
        refine zy E hb12 (by first | exact zAn E rfl rfl rfl (S.get (by repeat (first | exact pk1 | apply zAc))) rfl | exact zAj E rfl rfl rfl (by assumption)) ?_; clear E a; intro a E
        refine zy E hb12 (rn_cat E rfl rfl rfl (by rw [← hnm] at h1; simp only [List.length_cons, List.length_nil] at *; omega)) ?_; clear E a; intro a E
        refine zBx E rfl rfl rfl rfl hb12 ?_; refine zCo E rfl (by decide) rfl Tryz.func115 rfl (by kernel_rfl) rfl (name_ret (120 :: c0 :: tl) (by rw [List.length_cons, hnm]; omega) _ _ S.hp) ?_
        rintro v16 w ⟨rfl, hT⟩; clear E a; intro a E
        have S := S.all hT
        refine zy E hb7 (zAk E rfl rfl hb12 rfl) ?_; clear E a; intro a E
        refine zp E (zAi E rfl rfl hb7 rfl) ?_; clear E a; intro a E
        refine zp E (zAd E rfl rfl) ?_; clear E a; intro a E
        refine wpList_nil ?_
        refine zAv ?_
        have hb12n : (c0.toNat : Int) = 47 := hb12n
        have e : c0 = 47 := UInt8.toNat_inj.1 (show c0.toNat = 47 by omega)
        have e2 : behB (c0 :: tl) = nameB (120 :: c0 :: tl) := by simp [behB, e]
        rw [e2]
        exact ⟨S, E.keep (zAa rfl (zAa rfl zAm))⟩
      · have hb12n := hb12; replace hb12n := Nrm.nrm hb12n
        iterate 4 (refine zn E hb12 ?_; clear E a; intro a E)
        refine zy E hb7 (zAi E rfl rfl hb12 rfl) ?_; clear E a; intro a E
        refine zp E (zAi E rfl rfl hb7 rfl) ?_; clear E a; intro a E
        refine zp E (zAd E rfl rfl) ?_; clear E a; intro a E
        refine wpList_nil ?_
        refine zAv ?_
        have e : ¬ c0 = 47 := fun q => by subst q; simp at hb12n
        have e2 : behB (c0 :: tl) = false := by simp [behB, e]
        rw [e2]
        exact ⟨S, E.keep (zAa rfl (zAa rfl zAm))⟩
  · clear E S a; intro a w J; obtain ⟨S, E⟩ := J
    refine zAf hK ?_; clear hK; clear K
    refine wp_seq_k ?_; intro K hK
    refine zAb ?_
    iterate 2 (refine zp E (zAe E rfl rfl) ?_; clear E a; intro a E)
    refine zAr E (t := 20) rfl (fun hb20 => ?_) (fun hb20 => ?_)
    · have hb20n := hb20; replace hb20n := Nrm.nrm hb20n
      refine zy E hb20 (by first | exact zAg (q := 2) E rfl rfl rfl | exact zAh (q := 2) E rfl rfl rfl) ?_; clear E a; intro a E
      refine zy E hb20 (by first | exact zAn E rfl rfl rfl (S.get (by repeat (first | exact pk1 | apply zAc))) rfl | exact zAj E rfl rfl rfl (by assumption)) ?_; clear E a; intro a E
      refine zBx E rfl rfl rfl rfl hb20 ?_; refine zCo E rfl (by decide) rfl Tryz.func49 rfl (by kernel_rfl) rfl (zDs r.typ 1 2 _ _ S.hp) ?_
      rintro v23 w ⟨rfl, hT⟩; clear E a; intro a E
      have S := S.all hT
      refine zp E (zAk E rfl rfl hb20 rfl) ?_; clear E a; intro a E
      refine zp E (zAe E rfl rfl) ?_; clear E a; intro a E
      refine zAr E (t := 25) rfl (fun hb25 => ?_) (fun hb25 => ?_)
      · have hb25n := hb25; replace hb25n := Nrm.nrm hb25n
        refine zy E hb25 (by first | exact zAg (q := 3) E rfl rfl rfl | exact zAh (q := 3) E rfl rfl rfl) ?_; clear E a; intro a E
        refine zy E hb25 (by first | exact zAn E rfl rfl rfl (S.get (by repeat (first | exact pk1 | apply zAc))) rfl | exact zAj E rfl rfl rfl (by assumption)) ?_; clear E a; intro a E
        refine zBx E rfl rfl rfl rfl hb25 ?_; refine zCo E rfl (by decide) rfl Tryz.func49 rfl (by kernel_rfl) rfl (zDs r.frm 0 2199023255552 _ _ S.hp) ?_
        rintro v28 w ⟨rfl, hT⟩; clear E a; intro a E
        have S := S.all hT
        refine zp E (zAk E rfl rfl hb25 rfl) ?_; clear E a; intro a E
        refine zp E (zAe E rfl rfl) ?_; clear E a; intro a E
        refine zAr E (t := 30) rfl (fun hb30 => ?_) (fun hb30 => ?_)
        · have hb30n := hb30; replace hb30n := Nrm.nrm hb30n
          refine zy E hb30 (by first | exact zAg (q := 4) E rfl rfl rfl | exact zAh (q := 4) E rfl rfl rfl) ?_; clear E a; intro a E
          refine zy E hb30 (by first | exact zAn E rfl rfl rfl (S.get (by repeat (first | exact pk1 | apply zAc))) rfl | exact zAj E rfl rfl rfl (by assumption)) ?_; clear E a; intro a E
          refine zBx E rfl rfl rfl rfl hb30 ?_; refine zCo E rfl (by decide) rfl Tryz.func49 rfl (by kernel_rfl) rfl (zDs r.guid 1 2199023255552 _ _ S.hp) ?_
          rintro v33 w ⟨rfl, hT⟩; clear E a; intro a E
          have S := S.all hT
          refine zp E (zAk E rfl rfl hb30 rfl) ?_; clear E a; intro a E
          refine zp E (zAe E rfl rfl) ?_; clear E a; intro a E
          refine zAr E (t := 35) rfl (fun hb35 => ?_) (fun hb35 => ?_)
          · have hb35n := hb35; replace hb35n := Nrm.nrm hb35n
            refine zy E hb35 (by first | exact zAg (q := 5) E rfl rfl rfl | exact zAh (q := 5) E rfl rfl rfl) ?_; clear E a; intro a E
            refine zy E hb35 (by first | exact zAn E rfl rfl rfl (S.get (by repeat (first | exact pk1 | apply zAc))) rfl | exact zAj E rfl rfl rfl (by assumption)) ?_; clear E a; intro a E
            refine zy E hb35 (by first | exact zCc E rfl rfl rfl | exact zAs E rfl rfl rfl rfl | exact zBb E rfl rfl rfl rfl | exact zAt E rfl rfl rfl) ?_; clear E a; intro a E
            refine zy E hb35 (zAe E rfl rfl) ?_; clear E a; intro a E
            refine zAr E (t := 39) rfl (fun hb39 => ?_) (fun hb39 => ?_)
            · have hb39n := hb39; replace hb39n := Nrm.nrm hb39n
              iterate 4 (refine zn E hb39 ?_; clear E a; intro a E)
              iterate 3 (refine zu E ?_; clear E a; intro a E)
              refine zn E hb39 ?_; clear E a; intro a E
              refine zy E hb35 (zAk E rfl rfl hb39 rfl) ?_; clear E a; intro a E
              refine zp E (zAk E rfl rfl hb35 rfl) ?_; clear E a; intro a E
              refine zp E (zAe E rfl rfl) ?_; clear E a; intro a E
              refine zy E rfl (by first | exact zAg (q := 6) E rfl rfl rfl | exact zAh (q := 6) E rfl rfl rfl) ?_; clear E a; intro a E
              refine zy E rfl (by first | exact zAn E rfl rfl rfl (S.get (by repeat (first | exact pk1 | apply zAc))) rfl | exact zAj E rfl rfl rfl (by assumption)) ?_; clear E a; intro a E
              refine zBx E rfl rfl rfl rfl rfl ?_; refine zCo E rfl (by decide) rfl Tryz.func48 rfl (by kernel_rfl) rfl (zIi r.snap (by omega) _ _ S.hp) ?_
              rintro v53 w ⟨rfl, hT⟩; clear E a; intro a E
              have S := S.all hT
              refine zp E (zAk E rfl rfl rfl rfl) ?_; clear E a; intro a E
              refine zp E (zAe E rfl rfl) ?_; clear E a; intro a E
              refine zAr E (t := 55) rfl (fun hb55 => ?_) (fun hb55 => ?_)
              · have hb55n := hb55; replace hb55n := Nrm.nrm hb55n
                refine zy E hb55 (by first | exact zAg (q := 7) E rfl rfl rfl | exact zAh (q := 7) E rfl rfl rfl) ?_; clear E a; intro a E
                refine zy E hb55 (by first | exact zAn E rfl rfl rfl (S.get (by repeat (first | exact pk1 | apply zAc))) rfl | exact zAj E rfl rfl rfl (by assumption)) ?_; clear E a; intro a E
                refine zBx E rfl rfl rfl rfl hb55 ?_; refine zCo E rfl (by decide) rfl Tryz.func116 rfl (by kernel_rfl) rfl (props_ret C pv r.props hR.pr (by have := hs.props; omega) hs.prop _ (List.mem_cons_of_mem _ hC) _ S.hp) ?_
                rintro v58 w ⟨rfl, hT⟩; clear E a; intro a E
                have S := S.all hT
                refine zp E (zAk E rfl rfl hb55 rfl) ?_; clear E a; intro a E
                refine zp E (zAd E rfl rfl) ?_; clear E a; intro a E
                refine wpList_nil ?_
                refine zAf hK ?_; clear hK; clear K
                refine wp_ret ?_
                refine ret1 E rfl rfl ?_
                refine ⟨_, rfl, ?_, S.tail.tr⟩
                congr 1
                rw [Bool.eq_iff_iff, zDw]
                unfold begP
                rw [← hnm]
                clear S E hcells hnm H hR hs h1 h2
                simp_all <;> (intros; omega)
              · have hb55n := hb55; replace hb55n := Nrm.nrm hb55n
                iterate 3 (refine zn E hb55 ?_; clear E a; intro a E)
                refine zp E (zAi E rfl rfl hb55 rfl) ?_; clear E a; intro a E
                refine zp E (zAd E rfl rfl) ?_; clear E a; intro a E
                refine wpList_nil ?_
                refine zAf hK ?_; clear hK; clear K
                refine wp_ret ?_
                refine ret1 E rfl rfl ?_
                refine ⟨_, rfl, ?_, S.tail.tr⟩
                congr 1
                rw [Bool.eq_iff_iff, zDw]
                unfold begP
                rw [← hnm]
                clear S E hcells hnm H hR hs h1 h2
                simp_all <;> (intros; omega)
            · have hb39n := hb39; replace hb39n := Nrm.nrm hb39n
              refine zy E hb39 (by first | exact zAg (q := 5) E rfl rfl rfl | exact zAh (q := 5) E rfl rfl rfl) ?_; clear E a; intro a E
              refine zy E hb39 (by first | exact zAn E rfl rfl rfl (S.get (by repeat (first | exact pk1 | apply zAc))) rfl | exact zAj E rfl rfl rfl (by assumption)) ?_; clear E a; intro a E
              refine zy E hb39 (by first | exact zCc E rfl rfl rfl | exact zAs E rfl rfl rfl rfl | exact zBb E rfl rfl rfl rfl | exact zAt E rfl rfl rfl) ?_; clear E a; intro a E
              refine zy E hb39 (zAe E rfl rfl) ?_; clear E a; intro a E
              refine zAr E (t := 43) rfl (fun hb43 => ?_) (fun hb43 => ?_)
              · have hb43n := hb43; replace hb43n := Nrm.nrm hb43n
                refine zy E hb43 (by first | exact zAg (q := 3) E rfl rfl rfl | exact zAh (q := 3) E rfl rfl rfl) ?_; clear E a; intro a E
                refine zy E hb43 (by first | exact zAn E rfl rfl rfl (S.get (by repeat (first | exact pk1 | apply zAc))) rfl | exact zAj E rfl rfl rfl (by assumption)) ?_; clear E a; intro a E
                refine zy E hb43 (zDt E rfl rfl rfl) ?_; clear E a; intro a E
                refine zy E hb39 (zAk E rfl rfl hb43 rfl) ?_; clear E a; intro a E
                refine zy E hb35 (zAi E rfl rfl hb39 rfl) ?_; clear E a; intro a E
                refine zp E (zAk E rfl rfl hb35 rfl) ?_; clear E a; intro a E
                refine zp E (zAe E rfl rfl) ?_; clear E a; intro a E
                refine zAr E (t := 50) rfl (fun hb50 => ?_) (fun hb50 => ?_)
                · have hb50n := hb50; replace hb50n := Nrm.nrm hb50n
                  refine zy E hb50 (by first | exact zAg (q := 6) E rfl rfl rfl | exact zAh (q := 6) E rfl rfl rfl) ?_; clear E a; intro a E
                  refine zy E hb50 (by first | exact zAn E rfl rfl rfl (S.get (by repeat (first | exact pk1 | apply zAc))) rfl | exact zAj E rfl rfl rfl (by assumption)) ?_; clear E a; intro a E
                  refine zBx E rfl rfl rfl rfl hb50 ?_; refine zCo E rfl (by decide) rfl Tryz.func48 rfl (by kernel_rfl) rfl (zIi r.snap (by omega) _ _ S.hp) ?_
                  rintro v53 w ⟨rfl, hT⟩; clear E a; intro a E
                  have S := S.all hT
                  refine zp E (zAk E rfl rfl hb50 rfl) ?_; clear E a; intro a E
                  refine zp E (zAe E rfl rfl) ?_; clear E a; intro a E
                  refine zAr E (t := 55) rfl (fun hb55 => ?_) (fun hb55 => ?_)
                  · have hb55n := hb55; replace hb55n := Nrm.nrm hb55n
                    refine zy E hb55 (by first | exact zAg (q := 7) E rfl rfl rfl | exact zAh (q := 7) E rfl rfl rfl) ?_; clear E a; intro a E
                    refine zy E hb55 (by first | exact zAn E rfl rfl rfl (S.get (by repeat (first | exact pk1 | apply zAc))) rfl | exact zAj E rfl rfl rfl (by assumption)) ?_; clear E a; intro a E
                    refine zBx E rfl rfl rfl rfl hb55 ?_; refine zCo E rfl (by decide) rfl Tryz.func116 rfl (by kernel_rfl) rfl (props_ret C pv r.props hR.pr (by have := hs.props; omega) hs.prop _ (List.mem_cons_of_mem _ hC) _ S.hp) ?_
                    rintro v58 w ⟨rfl, hT⟩; clear E a; intro a E
                    have S := S.all hT
                    refine zp E (zAk E rfl rfl hb55 rfl) ?_; clear E a; intro a E
                    refine zp E (zAd E rfl rfl) ?_; clear E a; intro a E
                    refine wpList_nil ?_
                    refine zAf hK ?_; clear hK; clear K
                    refine wp_ret ?_
                    refine ret1 E rfl rfl ?_
                    refine ⟨_, rfl, ?_, S.tail.tr⟩
                    congr 1
                    rw [Bool.eq_iff_iff, zDw]
                    unfold begP
                    rw [← hnm]
                    clear S E hcells hnm H hR hs h1 h2
                    simp_all <;> (intros; omega)
                  · have hb55n := hb55; replace hb55n := Nrm.nrm hb55n
                    iterate 3 (refine zn E hb55 ?_; clear E a; intro a E)
                    refine zp E (zAi E rfl rfl hb55 rfl) ?_; clear E a; intro a E
                    refine zp E (zAd E rfl rfl) ?_; clear E a; intro a E
                    refine wpList_nil ?_
                    refine zAf hK ?_; clear hK; clear K
                    refine wp_ret ?_
                    refine ret1 E rfl rfl ?_
                    refine ⟨_, rfl, ?_, S.tail.tr⟩
                    congr 1
                    rw [Bool.eq_iff_iff, zDw]
                    unfold begP
                    rw [← hnm]
                    clear S E hcells hnm H hR hs h1 h2
                    simp_all <;> (intros; omega)
                · have hb50n := hb50; replace hb50n := Nrm.nrm hb50n
                  iterate 3 (refine zn E hb50 ?_; clear E a; intro a E)
                  refine zp E (zAi E rfl rfl hb50 rfl) ?_; clear E a; intro a E
                  refine zp E (zAe E rfl rfl) ?_; clear E a; intro a E
                  iterate 3 (refine zn E rfl ?_; clear E a; intro a E)
                  refine zp E (zAi E rfl rfl rfl rfl) ?_; clear E a; intro a E
                  refine zp E (zAd E rfl rfl) ?_; clear E a; intro a E
                  refine wpList_nil ?_
                  refine zAf hK ?_; clear hK; clear K
                  refine wp_ret ?_
                  refine ret1 E rfl rfl ?_
                  refine ⟨_, rfl, ?_, S.tail.tr⟩
                  congr 1
                  rw [Bool.eq_iff_iff, zDw]
                  unfold begP
                  rw [← hnm]
                  clear S E hcells hnm H hR hs h1 h2
                  simp_all <;> (intros; omega)
              · have hb43n := hb43; replace hb43n := Nrm.nrm hb43n
                iterate 3 (refine zn E hb43 ?_; clear E a; intro a E)
                refine zy E hb39 (zAi E rfl rfl hb43 rfl) ?_; clear E a; intro a E
                refine zy E hb35 (zAi E rfl rfl hb39 rfl) ?_; clear E a; intro a E
                refine zp E (zAk E rfl rfl hb35 rfl) ?_; clear E a; intro a E
                refine zp E (zAe E rfl rfl) ?_; clear E a; intro a E
                iterate 3 (refine zn E rfl ?_; clear E a; intro a E)
                refine zp E (zAi E rfl rfl rfl rfl) ?_; clear E a; intro a E
                refine zp E (zAe E rfl rfl) ?_; clear E a; intro a E
                iterate 3 (refine zn E rfl ?_; clear E a; intro a E)
                refine zp E (zAi E rfl rfl rfl rfl) ?_; clear E a; intro a E
                refine zp E (zAd E rfl rfl) ?_; clear E a; intro a E
                refine wpList_nil ?_
                refine zAf hK ?_; clear hK; clear K
                refine wp_ret ?_
                refine ret1 E rfl rfl ?_
                refine ⟨_, rfl, ?_, S.tail.tr⟩
                congr 1
                rw [Bool.eq_iff_iff, zDw]
                unfold begP
                rw [← hnm]
                clear S E hcells hnm H hR hs h1 h2
                simp_all <;> (intros; omega)
          · have hb35n := hb35; replace hb35n := Nrm.nrm hb35n
            iterate 4 (refine zn E hb35 ?_; clear E a; intro a E)
            iterate 8 (refine zu E ?_; clear E a; intro a E)
            refine zn E hb35 ?_; clear E a; intro a E
            refine zp E (zAi E rfl rfl hb35 rfl) ?_; clear E a; intro a E
            refine zp E (zAe E rfl rfl) ?_; clear E a; intro a E
            iterate 3 (refine zn E rfl ?_; clear E a; intro a E)
            refine zp E (zAi E rfl rfl rfl rfl) ?_; clear E a; intro a E
            refine zp E (zAe E rfl rfl) ?_; clear E a; intro a E
            iterate 3 (refine zn E rfl ?_; clear E a; intro a E)
            refine zp E (zAi E rfl rfl rfl rfl) ?_; clear E a; intro a E
            refine zp E (zAd E rfl rfl) ?_; clear E a; intro a E
            refine wpList_nil ?_
            refine zAf hK ?_; clear hK; clear K
            refine wp_ret ?_
            refine ret1 E rfl rfl ?_
            refine ⟨_, rfl, ?_, S.tail.tr⟩
            congr 1
            rw [Bool.eq_iff_iff, zDw]
            unfold begP
            rw [← hnm]
            clear S E hcells hnm H hR hs h1 h2
            simp_all <;> (intros; omega)
        · have hb30n := hb30; replace hb30n := Nrm.nrm hb30n
          iterate 3 (refine zn E hb30 ?_; clear E a; intro a E)
          refine zp E (zAi E rfl rfl hb30 rfl) ?_; clear E a; intro a E
          refine zp E (zAe E rfl rfl) ?_; clear E a; intro a E
          iterate 4 (refine zn E rfl ?_; clear E a; intro a E)
          iterate 8 (refine zu E ?_; clear E a; intro a E)
          refine zn E rfl ?_; clear E a; intro a E
          refine zp E (zAi E rfl rfl rfl rfl) ?_; clear E a; intro a E
          refine zp E (zAe E rfl rfl) ?_; clear E a; intro a E
          iterate 3 (refine zn E rfl ?_; clear E a; intro a E)
          refine zp E (zAi E rfl rfl rfl rfl) ?_; clear E a; intro a E
          refine zp E (zAe E rfl rfl) ?_; clear E a; intro a E
          iterate 3 (refine zn E rfl ?_; clear E a; intro a E)
          refine zp E (zAi E rfl rfl rfl rfl) ?_; clear E a; intro a E
          refine zp E (zAd E rfl rfl) ?_; clear E a; intro a E
          refine wpList_nil ?_
          refine zAf hK ?_; clear hK; clear K
          refine wp_ret ?_
          refine ret1 E rfl rfl ?_
          refine ⟨_, rfl, ?_, S.tail.tr⟩
          congr 1
          rw [Bool.eq_iff_iff, zDw]
          unfold begP
          rw [← hnm]
          clear S E hcells hnm H hR hs h1 h2
          simp_all <;> (intros; omega)
      · have hb25n := hb25; replace hb25n := Nrm.nrm hb25n
        iterate 3 (refine zn E hb25 ?_; clear E a; intro a E)
        refine zp E (zAi E rfl rfl hb25 rfl) ?_; clear E a; intro a E
        refine zp E (zAe E rfl rfl) ?_; clear E a; intro a E
        iterate 3 (refine zn E rfl ?_; clear E a; intro a E)
        refine zp E (zAi E rfl rfl rfl rfl) ?_; clear E a; intro a E
        refine zp E (zAe E rfl rfl) ?_; clear E a; intro a E
        iterate 4 (refine zn E rfl ?_; clear E a; intro a E)
        iterate 8 (refine zu E ?_; clear E a; intro a E)
        refine zn E rfl ?_; clear E a; intro a E
        refine zp E (zAi E rfl rfl rfl rfl) ?_; clear E a; intro a E
        refine zp E (zAe E rfl rfl) ?_; clear E a; intro a E
        iterate 3 (refine zn E rfl ?_; clear E a; intro a E)
        refine zp E (zAi E rfl rfl rfl rfl) ?_; clear E a; intro a E
        refine zp E (zAe E rfl rfl) ?_; clear E a; intro a E
        iterate 3 (refine zn E rfl ?_; clear E a; intro a E)
        refine zp E (zAi E rfl rfl rfl rfl) ?_; clear E a; intro a E
        refine zp E (zAd E rfl rfl) ?_; clear E a; intro a E
        refine wpList_nil ?_
        refine zAf hK ?_; clear hK; clear K
        refine wp_ret ?_
        refine ret1 E rfl rfl ?_
        refine ⟨_, rfl, ?_, S.tail.tr⟩
        congr 1
        rw [Bool.eq_iff_iff, zDw]
        unfold begP
        rw [← hnm]
        clear S E hcells hnm H hR hs h1 h2
        simp_all <;> (intros; omega)
    · have hb20n := hb20; replace hb20n := Nrm.nrm hb20n
      iterate 3 (refine zn E hb20 ?_; clear E a; intro a E)
      refine zp E (zAi E rfl rfl hb20 rfl) ?_; clear E a; intro a E
      refine zp E (zAe E rfl rfl) ?_; clear E a; intro a E
      iterate 3 (refine zn E rfl ?_; clear E a; intro a E)
      refine zp E (zAi E rfl rfl rfl rfl) ?_; clear E a; intro a E
      refine zp E (zAe E rfl rfl) ?_; clear E a; intro a E
      iterate 3 (refine zn E rfl ?_; clear E a; intro a E)
      refine zp E (zAi E rfl rfl rfl rfl) ?_; clear E a; intro a E
      refine zp E (zAe E rfl rfl) ?_; clear E a; intro a E
      iterate 4 (refine zn E rfl ?_; clear E a; intro a E)
      iterate 8 (refine zu E ?_; clear E a; intro a E)
      refine zn E rfl ?_; clear E a; intro a E
      refine zp E (zAi E rfl rfl rfl rfl) ?_; clear E a; intro a E
      refine zp E (zAe E rfl rfl) ?_; clear E a; intro a E
      iterate 3 (refine zn E rfl ?_; clear E a; intro a E)
      refine zp E (zAi E rfl rfl rfl rfl) ?_; clear E a; intro a E
      refine zp E (zAe E rfl rfl) ?_; clear E a; intro a E
      iterate 3 (refine zn E rfl ?_; clear E a; intro a E)
      refine zp E (zAi E rfl rfl rfl rfl) ?_; clear E a; intro a E
      refine zp E (zAd E rfl rfl) ?_; clear E a; intro a E
      refine wpList_nil ?_
      refine zAf hK ?_; clear hK; clear K
      refine wp_ret ?_
      refine ret1 E rfl rfl ?_
      refine ⟨_, rfl, ?_, S.tail.tr⟩
      congr 1
      rw [Bool.eq_iff_iff, zDw]
      unfold begP
      rw [← hnm]
      clear S E hcells hnm H hR hs h1 h2
      simp_all <;> (intros; omega)
end
end Go.Proofs.YtbogecljkaimdaaGreatDoor
namespace Go.Sl
theorem bare1 {r : Rec} (h : r.kind = 1) : zDr r = { r with name := [], many := 0 } := by simp [zDr, h]
theorem bare2 {r : Rec} (h : r.kind = 2) : zDr r = { r with name := [], typ := 0, frm := 0, guid := 0, origin := 0, snap := [], props := [] } := by simp [zDr, h]
theorem bare3 {r : Rec} (h : r.kind = 3) : zDr r = { r with keep := [] } := by simp [zDr, h]
theorem bare4 {r : Rec} (h : r.kind = 4) : zDr r = { r with object := 0, keep := [] } := by simp [zDr, h]
theorem bare5 {r : Rec} (h : r.kind = 5) : zDr r = { r with object := 0, at_ := 0, data := [] } := by simp [zDr, h]
theorem bare6 {r : Rec} (h1 : r.kind ≠ 1) (h2 : r.kind ≠ 2) (h3 : r.kind ≠ 3) (h4 : r.kind ≠ 4) (h5 : r.kind ≠ 5) : zDr r = { r with many := 0 } := by simp [zDr, h1, h2, h3, h4, h5]
theorem Sml.bare {r : Rec} (h : Sml r) : Sml (zDr r) := by
  obtain ⟨h1, h2, h3, h4, h5, h6⟩ := h
  unfold zDr
  repeat' split
  all_goals constructor <;> first | assumption | (simp; done)
end Go.Sl
namespace Go.Proofs.YtbogecljkaimdaaGreatDoor
open Go.Sl
set_option maxRecDepth 10000
theorem bare_ret {C : zAw} {r : Rec} {pv kv dv : Value} (hR : RecR C r pv kv dv) {As : List zAw} (w0 : World) (H : Hp w0 As) :
    Ret Tryz.prog 27 #[.agg (r.cells pv kv dv).toArray] w0 fun u w' => ∃ pv' kv' dv', u = .agg ((zDr r).cells pv' kv' dv').toArray ∧ RecR C (zDr r) pv' kv' dv' ∧ Trs w0 w' As As := by
  have S := St.begin H
  obtain ⟨ad1, c1, rfl⟩ := hR.pr.slice
  obtain ⟨ad2, c2, rfl⟩ := hR.kr.slice
  obtain ⟨ad3, c3, rfl⟩ := hR.dr.slice
  refine zCu 32 Tryz.func27 rfl rfl (by decide) ?_; intro a E
  refine wp_seq_k ?_; intro K hK
  refine zAb ?_
  refine zAo rfl (zCm E S rfl rfl (by decide) rfl rfl ?_); clear E S a; intro a w b1 E S
  refine zAo rfl (zBy E S rfl rfl (by decide) rfl rfl rfl ?_); clear E S a; intro a w b2 E S
  refine wpList_nil ?_
  refine zAf hK ?_; clear hK; clear K
  iterate 2 (refine wp_seq_k ?_; intro K hK)
  refine zAb ?_
  refine zp E (by first | exact zAg (q := 0) E rfl rfl rfl | exact zAh (q := 0) E rfl rfl rfl) ?_; clear E a; intro a E
  refine zp E (by first | exact zAn E rfl rfl rfl (S.get (by repeat (first | exact pk1 | apply zAc))) rfl | exact zAj E rfl rfl rfl (by assumption)) ?_; clear E a; intro a E
  refine wpList_nil ?_
  refine zAf hK ?_; clear hK; clear K
  refine wp_block ?_
  refine wp_seq_k ?_; intro K hK
  refine zAb ?_
  refine zp E (by first | exact zCc E rfl rfl rfl | exact zAs E rfl rfl rfl rfl | exact zBb E rfl rfl rfl rfl | exact zAt E rfl rfl rfl) ?_; clear E a; intro a E
  refine zp E (zAd E rfl rfl) ?_; clear E a; intro a E
  refine wpList_nil ?_
  refine zAf hK ?_; clear hK; clear K
  refine zBh E rfl (fun hb => ?_) (fun hb => ?_)
  · replace hb := Nrm.nrm hb
    have k1 := hb
    refine zAb ?_
    refine zp E (by first | exact zAg (q := 1) E rfl rfl rfl | exact zAh (q := 1) E rfl rfl rfl) ?_; clear E a; intro a E
    refine zAo rfl (zBp E S rfl rfl rfl rfl rfl rfl (by repeat (first | exact pk1 | apply zAc)) (by first | exact Nat.le_of_ble_eq_true rfl | (simp; done) | (simp; omega)) ?_); clear E S a; intro a w E S; try dsimp only [List.set] at S
    refine zp E (by first | exact zAg (q := 10) E rfl rfl rfl | exact zAh (q := 10) E rfl rfl rfl) ?_; clear E a; intro a E
    refine zAo rfl (zBp E S rfl rfl rfl rfl rfl rfl (by repeat (first | exact pk1 | apply zAc)) (by first | exact Nat.le_of_ble_eq_true rfl | (simp; done) | (simp; omega)) ?_); clear E S a; intro a w E S; try dsimp only [List.set] at S
    refine wpList_nil ?_
    refine zBe ?_
    refine zAf hK ?_; clear hK; clear K
    refine wp_seq_k ?_; intro K hK
    refine zAb ?_
    refine zp E (zBn (vs := [_, _, _, _, _, _, _, _, _, _, _, _, _]) E rfl rfl rfl (S.get (by repeat (first | exact pk1 | apply zAc))) rfl rfl) ?_; clear E a; intro a E
    refine zAo rfl (zBk E S rfl rfl rfl rfl (by simp [Value.oneCell']) rfl (by repeat (first | exact pk1 | apply zAc)) (by simp) ?_); clear E S a; intro a w E S; simp only [List.take_succ_cons, List.take_zero, List.drop_succ_cons, List.drop_zero, List.cons_append, List.nil_append, List.append_nil, List.length_cons, List.length_nil, Nat.zero_add, Nat.add_zero] at S
    refine wpList_nil ?_
    refine zAf hK ?_; clear hK; clear K
    refine wp_ret ?_
    refine zIe E rfl rfl (S.get (by repeat (first | exact pk1 | apply zAc))) rfl ?_
    have S := S.tail2
    first
      | (rw [bare1 k1]; exact ⟨_, rfl, _, _, _, rfl, ⟨hR.pr, hR.kr, hR.dr⟩, S.tr⟩)
      | (rw [bare2 k2]; exact ⟨_, rfl, _, _, _, rfl, ⟨Rd.nil _ _, hR.kr, hR.dr⟩, S.tr⟩)
      | (rw [bare3 k3]; exact ⟨_, rfl, _, _, _, rfl, ⟨hR.pr, Rd.nil _ _, hR.dr⟩, S.tr⟩)
      | (rw [bare4 k4]; exact ⟨_, rfl, _, _, _, rfl, ⟨hR.pr, Rd.nil _ _, hR.dr⟩, S.tr⟩)
      | (rw [bare5 k5]; exact ⟨_, rfl, _, _, _, rfl, ⟨hR.pr, hR.kr, Rd.nil _ _⟩, S.tr⟩)
      | (rw [bare6 k1 k2 k3 k4 k5]; exact ⟨_, rfl, _, _, _, rfl, ⟨hR.pr, hR.kr, hR.dr⟩, S.tr⟩)
  · replace hb := Nrm.nrm hb
    have k1 := hb
    refine wp_seq_k ?_; intro K hK
    refine zAb ?_
    refine zp E (by first | exact zCc E rfl rfl rfl | exact zAs E rfl rfl rfl rfl | exact zBb E rfl rfl rfl rfl | exact zAt E rfl rfl rfl) ?_; clear E a; intro a E
    refine zp E (zAd E rfl rfl) ?_; clear E a; intro a E
    refine wpList_nil ?_
    refine zAf hK ?_; clear hK; clear K
    refine zBh E rfl (fun hb => ?_) (fun hb => ?_)
    · replace hb := Nrm.nrm hb
      have k2 := hb
      refine zAb ?_
      refine zp E (by first | exact zAg (q := 1) E rfl rfl rfl | exact zAh (q := 1) E rfl rfl rfl) ?_; clear E a; intro a E
      refine zAo rfl (zBp E S rfl rfl rfl rfl rfl rfl (by repeat (first | exact pk1 | apply zAc)) (by first | exact Nat.le_of_ble_eq_true rfl | (simp; done) | (simp; omega)) ?_); clear E S a; intro a w E S; try dsimp only [List.set] at S
      refine zp E (by first | exact zAg (q := 2) E rfl rfl rfl | exact zAh (q := 2) E rfl rfl rfl) ?_; clear E a; intro a E
      refine zAo rfl (zBp E S rfl rfl rfl rfl rfl rfl (by repeat (first | exact pk1 | apply zAc)) (by first | exact Nat.le_of_ble_eq_true rfl | (simp; done) | (simp; omega)) ?_); clear E S a; intro a w E S; try dsimp only [List.set] at S
      refine zp E (by first | exact zAg (q := 3) E rfl rfl rfl | exact zAh (q := 3) E rfl rfl rfl) ?_; clear E a; intro a E
      refine zAo rfl (zBp E S rfl rfl rfl rfl rfl rfl (by repeat (first | exact pk1 | apply zAc)) (by first | exact Nat.le_of_ble_eq_true rfl | (simp; done) | (simp; omega)) ?_); clear E S a; intro a w E S; try dsimp only [List.set] at S
      refine zp E (by first | exact zAg (q := 4) E rfl rfl rfl | exact zAh (q := 4) E rfl rfl rfl) ?_; clear E a; intro a E
      refine zAo rfl (zBp E S rfl rfl rfl rfl rfl rfl (by repeat (first | exact pk1 | apply zAc)) (by first | exact Nat.le_of_ble_eq_true rfl | (simp; done) | (simp; omega)) ?_); clear E S a; intro a w E S; try dsimp only [List.set] at S
      refine zp E (by first | exact zAg (q := 5) E rfl rfl rfl | exact zAh (q := 5) E rfl rfl rfl) ?_; clear E a; intro a E
      refine zAo rfl (zBp E S rfl rfl rfl rfl rfl rfl (by repeat (first | exact pk1 | apply zAc)) (by first | exact Nat.le_of_ble_eq_true rfl | (simp; done) | (simp; omega)) ?_); clear E S a; intro a w E S; try dsimp only [List.set] at S
      refine zp E (by first | exact zAg (q := 6) E rfl rfl rfl | exact zAh (q := 6) E rfl rfl rfl) ?_; clear E a; intro a E
      refine zAo rfl (zBp E S rfl rfl rfl rfl rfl rfl (by repeat (first | exact pk1 | apply zAc)) (by first | exact Nat.le_of_ble_eq_true rfl | (simp; done) | (simp; omega)) ?_); clear E S a; intro a w E S; try dsimp only [List.set] at S
      refine zp E (by first | exact zAg (q := 7) E rfl rfl rfl | exact zAh (q := 7) E rfl rfl rfl) ?_; clear E a; intro a E
      refine zAo rfl (zBp E S rfl rfl rfl rfl rfl rfl (by repeat (first | exact pk1 | apply zAc)) (by first | exact Nat.le_of_ble_eq_true rfl | (simp; done) | (simp; omega)) ?_); clear E S a; intro a w E S; try dsimp only [List.set] at S
      refine wpList_nil ?_
      refine zBe ?_
      refine zAf hK ?_; clear hK; clear K
      refine wp_seq_k ?_; intro K hK
      refine zAb ?_
      refine zp E (zBn (vs := [_, _, _, _, _, _, _, _, _, _, _, _, _]) E rfl rfl rfl (S.get (by repeat (first | exact pk1 | apply zAc))) rfl rfl) ?_; clear E a; intro a E
      refine zAo rfl (zBk E S rfl rfl rfl rfl (by simp [Value.oneCell']) rfl (by repeat (first | exact pk1 | apply zAc)) (by simp) ?_); clear E S a; intro a w E S; simp only [List.take_succ_cons, List.take_zero, List.drop_succ_cons, List.drop_zero, List.cons_append, List.nil_append, List.append_nil, List.length_cons, List.length_nil, Nat.zero_add, Nat.add_zero] at S
      refine wpList_nil ?_
      refine zAf hK ?_; clear hK; clear K
      refine wp_ret ?_
      refine zIe E rfl rfl (S.get (by repeat (first | exact pk1 | apply zAc))) rfl ?_
      have S := S.tail2
      first
        | (rw [bare1 k1]; exact ⟨_, rfl, _, _, _, rfl, ⟨hR.pr, hR.kr, hR.dr⟩, S.tr⟩)
        | (rw [bare2 k2]; exact ⟨_, rfl, _, _, _, rfl, ⟨Rd.nil _ _, hR.kr, hR.dr⟩, S.tr⟩)
        | (rw [bare3 k3]; exact ⟨_, rfl, _, _, _, rfl, ⟨hR.pr, Rd.nil _ _, hR.dr⟩, S.tr⟩)
        | (rw [bare4 k4]; exact ⟨_, rfl, _, _, _, rfl, ⟨hR.pr, Rd.nil _ _, hR.dr⟩, S.tr⟩)
        | (rw [bare5 k5]; exact ⟨_, rfl, _, _, _, rfl, ⟨hR.pr, hR.kr, Rd.nil _ _⟩, S.tr⟩)
        | (rw [bare6 k1 k2 k3 k4 k5]; exact ⟨_, rfl, _, _, _, rfl, ⟨hR.pr, hR.kr, hR.dr⟩, S.tr⟩)
    · replace hb := Nrm.nrm hb
      have k2 := hb
      refine wp_seq_k ?_; intro K hK
      refine zAb ?_
      refine zp E (by first | exact zCc E rfl rfl rfl | exact zAs E rfl rfl rfl rfl | exact zBb E rfl rfl rfl rfl | exact zAt E rfl rfl rfl) ?_; clear E a; intro a E
      refine zp E (zAd E rfl rfl) ?_; clear E a; intro a E
      refine wpList_nil ?_
      refine zAf hK ?_; clear hK; clear K
      refine zBh E rfl (fun hb => ?_) (fun hb => ?_)
      · replace hb := Nrm.nrm hb
        have k3 := hb
        refine zAb ?_
        refine zp E (by first | exact zAg (q := 11) E rfl rfl rfl | exact zAh (q := 11) E rfl rfl rfl) ?_; clear E a; intro a E
        refine zAo rfl (zBp E S rfl rfl rfl rfl rfl rfl (by repeat (first | exact pk1 | apply zAc)) (by first | exact Nat.le_of_ble_eq_true rfl | (simp; done) | (simp; omega)) ?_); clear E S a; intro a w E S; try dsimp only [List.set] at S
        refine wpList_nil ?_
        refine zBe ?_
        refine zAf hK ?_; clear hK; clear K
        refine wp_seq_k ?_; intro K hK
        refine zAb ?_
        refine zp E (zBn (vs := [_, _, _, _, _, _, _, _, _, _, _, _, _]) E rfl rfl rfl (S.get (by repeat (first | exact pk1 | apply zAc))) rfl rfl) ?_; clear E a; intro a E
        refine zAo rfl (zBk E S rfl rfl rfl rfl (by simp [Value.oneCell']) rfl (by repeat (first | exact pk1 | apply zAc)) (by simp) ?_); clear E S a; intro a w E S; simp only [List.take_succ_cons, List.take_zero, List.drop_succ_cons, List.drop_zero, List.cons_append, List.nil_append, List.append_nil, List.length_cons, List.length_nil, Nat.zero_add, Nat.add_zero] at S
        refine wpList_nil ?_
        refine zAf hK ?_; clear hK; clear K
        refine wp_ret ?_
        refine zIe E rfl rfl (S.get (by repeat (first | exact pk1 | apply zAc))) rfl ?_
        have S := S.tail2
        first
          | (rw [bare1 k1]; exact ⟨_, rfl, _, _, _, rfl, ⟨hR.pr, hR.kr, hR.dr⟩, S.tr⟩)
          | (rw [bare2 k2]; exact ⟨_, rfl, _, _, _, rfl, ⟨Rd.nil _ _, hR.kr, hR.dr⟩, S.tr⟩)
          | (rw [bare3 k3]; exact ⟨_, rfl, _, _, _, rfl, ⟨hR.pr, Rd.nil _ _, hR.dr⟩, S.tr⟩)
          | (rw [bare4 k4]; exact ⟨_, rfl, _, _, _, rfl, ⟨hR.pr, Rd.nil _ _, hR.dr⟩, S.tr⟩)
          | (rw [bare5 k5]; exact ⟨_, rfl, _, _, _, rfl, ⟨hR.pr, hR.kr, Rd.nil _ _⟩, S.tr⟩)
          | (rw [bare6 k1 k2 k3 k4 k5]; exact ⟨_, rfl, _, _, _, rfl, ⟨hR.pr, hR.kr, hR.dr⟩, S.tr⟩)
      · replace hb := Nrm.nrm hb
        have k3 := hb
        refine wp_seq_k ?_; intro K hK
        refine zAb ?_
        refine zp E (by first | exact zCc E rfl rfl rfl | exact zAs E rfl rfl rfl rfl | exact zBb E rfl rfl rfl rfl | exact zAt E rfl rfl rfl) ?_; clear E a; intro a E
        refine zp E (zAd E rfl rfl) ?_; clear E a; intro a E
        refine wpList_nil ?_
        refine zAf hK ?_; clear hK; clear K
        refine zBh E rfl (fun hb => ?_) (fun hb => ?_)
        · replace hb := Nrm.nrm hb
          have k4 := hb
          refine zAb ?_
          refine zp E (by first | exact zAg (q := 8) E rfl rfl rfl | exact zAh (q := 8) E rfl rfl rfl) ?_; clear E a; intro a E
          refine zAo rfl (zBp E S rfl rfl rfl rfl rfl rfl (by repeat (first | exact pk1 | apply zAc)) (by first | exact Nat.le_of_ble_eq_true rfl | (simp; done) | (simp; omega)) ?_); clear E S a; intro a w E S; try dsimp only [List.set] at S
          refine zp E (by first | exact zAg (q := 11) E rfl rfl rfl | exact zAh (q := 11) E rfl rfl rfl) ?_; clear E a; intro a E
          refine zAo rfl (zBp E S rfl rfl rfl rfl rfl rfl (by repeat (first | exact pk1 | apply zAc)) (by first | exact Nat.le_of_ble_eq_true rfl | (simp; done) | (simp; omega)) ?_); clear E S a; intro a w E S; try dsimp only [List.set] at S
          refine wpList_nil ?_
          refine zBe ?_
          refine zAf hK ?_; clear hK; clear K
          refine wp_seq_k ?_; intro K hK
          refine zAb ?_
          refine zp E (zBn (vs := [_, _, _, _, _, _, _, _, _, _, _, _, _]) E rfl rfl rfl (S.get (by repeat (first | exact pk1 | apply zAc))) rfl rfl) ?_; clear E a; intro a E
          refine zAo rfl (zBk E S rfl rfl rfl rfl (by simp [Value.oneCell']) rfl (by repeat (first | exact pk1 | apply zAc)) (by simp) ?_); clear E S a; intro a w E S; simp only [List.take_succ_cons, List.take_zero, List.drop_succ_cons, List.drop_zero, List.cons_append, List.nil_append, List.append_nil, List.length_cons, List.length_nil, Nat.zero_add, Nat.add_zero] at S
          refine wpList_nil ?_
          refine zAf hK ?_; clear hK; clear K
          refine wp_ret ?_
          refine zIe E rfl rfl (S.get (by repeat (first | exact pk1 | apply zAc))) rfl ?_
          have S := S.tail2
          first
            | (rw [bare1 k1]; exact ⟨_, rfl, _, _, _, rfl, ⟨hR.pr, hR.kr, hR.dr⟩, S.tr⟩)
            | (rw [bare2 k2]; exact ⟨_, rfl, _, _, _, rfl, ⟨Rd.nil _ _, hR.kr, hR.dr⟩, S.tr⟩)
            | (rw [bare3 k3]; exact ⟨_, rfl, _, _, _, rfl, ⟨hR.pr, Rd.nil _ _, hR.dr⟩, S.tr⟩)
            | (rw [bare4 k4]; exact ⟨_, rfl, _, _, _, rfl, ⟨hR.pr, Rd.nil _ _, hR.dr⟩, S.tr⟩)
            | (rw [bare5 k5]; exact ⟨_, rfl, _, _, _, rfl, ⟨hR.pr, hR.kr, Rd.nil _ _⟩, S.tr⟩)
            | (rw [bare6 k1 k2 k3 k4 k5]; exact ⟨_, rfl, _, _, _, rfl, ⟨hR.pr, hR.kr, hR.dr⟩, S.tr⟩)
        · replace hb := Nrm.nrm hb
          have k4 := hb
          refine wp_seq_k ?_; intro K hK
          refine zAb ?_
          refine zp E (by first | exact zCc E rfl rfl rfl | exact zAs E rfl rfl rfl rfl | exact zBb E rfl rfl rfl rfl | exact zAt E rfl rfl rfl) ?_; clear E a; intro a E
          refine zp E (zAd E rfl rfl) ?_; clear E a; intro a E
          refine wpList_nil ?_
          refine zAf hK ?_; clear hK; clear K
          refine zBh E rfl (fun hb => ?_) (fun hb => ?_)
          · replace hb := Nrm.nrm hb
            have k5 := hb
            refine zAb ?_
            refine zp E (by first | exact zAg (q := 8) E rfl rfl rfl | exact zAh (q := 8) E rfl rfl rfl) ?_; clear E a; intro a E
            refine zAo rfl (zBp E S rfl rfl rfl rfl rfl rfl (by repeat (first | exact pk1 | apply zAc)) (by first | exact Nat.le_of_ble_eq_true rfl | (simp; done) | (simp; omega)) ?_); clear E S a; intro a w E S; try dsimp only [List.set] at S
            refine zp E (by first | exact zAg (q := 9) E rfl rfl rfl | exact zAh (q := 9) E rfl rfl rfl) ?_; clear E a; intro a E
            refine zAo rfl (zBp E S rfl rfl rfl rfl rfl rfl (by repeat (first | exact pk1 | apply zAc)) (by first | exact Nat.le_of_ble_eq_true rfl | (simp; done) | (simp; omega)) ?_); clear E S a; intro a w E S; try dsimp only [List.set] at S
            refine zp E (by first | exact zAg (q := 12) E rfl rfl rfl | exact zAh (q := 12) E rfl rfl rfl) ?_; clear E a; intro a E
            refine zAo rfl (zBp E S rfl rfl rfl rfl rfl rfl (by repeat (first | exact pk1 | apply zAc)) (by first | exact Nat.le_of_ble_eq_true rfl | (simp; done) | (simp; omega)) ?_); clear E S a; intro a w E S; try dsimp only [List.set] at S
            refine wpList_nil ?_
            refine zBe ?_
            refine zAf hK ?_; clear hK; clear K
            refine wp_seq_k ?_; intro K hK
            refine zAb ?_
            refine zp E (zBn (vs := [_, _, _, _, _, _, _, _, _, _, _, _, _]) E rfl rfl rfl (S.get (by repeat (first | exact pk1 | apply zAc))) rfl rfl) ?_; clear E a; intro a E
            refine zAo rfl (zBk E S rfl rfl rfl rfl (by simp [Value.oneCell']) rfl (by repeat (first | exact pk1 | apply zAc)) (by simp) ?_); clear E S a; intro a w E S; simp only [List.take_succ_cons, List.take_zero, List.drop_succ_cons, List.drop_zero, List.cons_append, List.nil_append, List.append_nil, List.length_cons, List.length_nil, Nat.zero_add, Nat.add_zero] at S
            refine wpList_nil ?_
            refine zAf hK ?_; clear hK; clear K
            refine wp_ret ?_
            refine zIe E rfl rfl (S.get (by repeat (first | exact pk1 | apply zAc))) rfl ?_
            have S := S.tail2
            first
              | (rw [bare1 k1]; exact ⟨_, rfl, _, _, _, rfl, ⟨hR.pr, hR.kr, hR.dr⟩, S.tr⟩)
              | (rw [bare2 k2]; exact ⟨_, rfl, _, _, _, rfl, ⟨Rd.nil _ _, hR.kr, hR.dr⟩, S.tr⟩)
              | (rw [bare3 k3]; exact ⟨_, rfl, _, _, _, rfl, ⟨hR.pr, Rd.nil _ _, hR.dr⟩, S.tr⟩)
              | (rw [bare4 k4]; exact ⟨_, rfl, _, _, _, rfl, ⟨hR.pr, Rd.nil _ _, hR.dr⟩, S.tr⟩)
              | (rw [bare5 k5]; exact ⟨_, rfl, _, _, _, rfl, ⟨hR.pr, hR.kr, Rd.nil _ _⟩, S.tr⟩)
              | (rw [bare6 k1 k2 k3 k4 k5]; exact ⟨_, rfl, _, _, _, rfl, ⟨hR.pr, hR.kr, hR.dr⟩, S.tr⟩)
          · replace hb := Nrm.nrm hb
            have k5 := hb
            refine zAb ?_
            refine zp E (by first | exact zAg (q := 10) E rfl rfl rfl | exact zAh (q := 10) E rfl rfl rfl) ?_; clear E a; intro a E
            refine zAo rfl (zBp E S rfl rfl rfl rfl rfl rfl (by repeat (first | exact pk1 | apply zAc)) (by first | exact Nat.le_of_ble_eq_true rfl | (simp; done) | (simp; omega)) ?_); clear E S a; intro a w E S; try dsimp only [List.set] at S
            refine wpList_nil ?_
            refine zBe ?_
            refine zAf hK ?_; clear hK; clear K
            refine wp_seq_k ?_; intro K hK
            refine zAb ?_
            refine zp E (zBn (vs := [_, _, _, _, _, _, _, _, _, _, _, _, _]) E rfl rfl rfl (S.get (by repeat (first | exact pk1 | apply zAc))) rfl rfl) ?_; clear E a; intro a E
            refine zAo rfl (zBk E S rfl rfl rfl rfl (by simp [Value.oneCell']) rfl (by repeat (first | exact pk1 | apply zAc)) (by simp) ?_); clear E S a; intro a w E S; simp only [List.take_succ_cons, List.take_zero, List.drop_succ_cons, List.drop_zero, List.cons_append, List.nil_append, List.append_nil, List.length_cons, List.length_nil, Nat.zero_add, Nat.add_zero] at S
            refine wpList_nil ?_
            refine zAf hK ?_; clear hK; clear K
            refine wp_ret ?_
            refine zIe E rfl rfl (S.get (by repeat (first | exact pk1 | apply zAc))) rfl ?_
            have S := S.tail2
            first
              | (rw [bare1 k1]; exact ⟨_, rfl, _, _, _, rfl, ⟨hR.pr, hR.kr, hR.dr⟩, S.tr⟩)
              | (rw [bare2 k2]; exact ⟨_, rfl, _, _, _, rfl, ⟨Rd.nil _ _, hR.kr, hR.dr⟩, S.tr⟩)
              | (rw [bare3 k3]; exact ⟨_, rfl, _, _, _, rfl, ⟨hR.pr, Rd.nil _ _, hR.dr⟩, S.tr⟩)
              | (rw [bare4 k4]; exact ⟨_, rfl, _, _, _, rfl, ⟨hR.pr, Rd.nil _ _, hR.dr⟩, S.tr⟩)
              | (rw [bare5 k5]; exact ⟨_, rfl, _, _, _, rfl, ⟨hR.pr, hR.kr, Rd.nil _ _⟩, S.tr⟩)
              | (rw [bare6 k1 k2 k3 k4 k5]; exact ⟨_, rfl, _, _, _, rfl, ⟨hR.pr, hR.kr, hR.dr⟩, S.tr⟩)
abbrev fnv (f : FuncId) : Value := .func (.func f) #[] #[]
def rowC (f g h : FuncId) : List Value := [fnv f, fnv g, fnv h]
def mayF (k : Int) : FuncId := if k = 1 then 47 else if k = 2 then 96 else if k = 3 then 55 else if k = 4 then 61 else if k = 5 then 64 else 99
def layF (k : Int) : FuncId := if k = 1 then 50 else if k = 2 then 94 else if k = 3 then 57 else if k = 4 then 62 else if k = 5 then 65 else 100
def takF (k : Int) : FuncId := if k = 1 then 52 else if k = 2 then 95 else if k = 3 then 59 else if k = 4 then 63 else if k = 5 then 67 else 101
def rowV (k : Int) : Value := .agg (rowC (mayF k) (layF k) (takF k)).toArray
def zHn : Array MapEntry := #[⟨.int .i64 1, rowV 1, 0⟩, ⟨.int .i64 2, rowV 2, 1⟩, ⟨.int .i64 3, rowV 3, 2⟩, ⟨.int .i64 4, rowV 4, 3⟩, ⟨.int .i64 5, rowV 5, 4⟩, ⟨.int .i64 6, rowV 6, 5⟩, ⟨.int .i64 7, rowV 7, 6⟩]
def inK (k : Int) : Prop := 1 ≤ k ∧ k ≤ 7
theorem zEt {k : Int} (h : inK k) : k = 1 ∨ k = 2 ∨ k = 3 ∨ k = 4 ∨ k = 5 ∨ k = 6 ∨ k = 7 := by unfold inK at h; omega
theorem row_is {k : Int} (h : inK k) : ∃ i, Instr.findNow (.int .i64) (.int .i64 k) zHn.toList 0 = some (some (i, rowV k)) := by
  rcases zEt h with rfl | rfl | rfl | rfl | rfl | rfl | rfl <;> exact ⟨_, rfl⟩
theorem row_not {k : Int} (h : ¬ inK k) : Instr.findNow (.int .i64) (.int .i64 k) zHn.toList 0 = some none := by
  have hk : ∀ j : Int, inK j → (k == j) = false := fun j hj => by
    rw [beq_eq_false_iff_ne]; intro e; exact h (e ▸ hj)
  have h1 := hk 1 (by unfold inK; omega)
  have h2 := hk 2 (by unfold inK; omega)
  have h3 := hk 3 (by unfold inK; omega)
  have h4 := hk 4 (by unfold inK; omega)
  have h5 := hk 5 (by unfold inK; omega)
  have h6 := hk 6 (by unfold inK; omega)
  have h7 := hk 7 (by unfold inK; omega)
  simp [zHn, Instr.findNow, Instr.sameNow, h1, h2, h3, h4, h5, h6, h7]
theorem many_ret (As : List zAw) (w0 : World) (H : Hp w0 As) : Ret Tryz.prog 69 #[] w0 fun u w' => u = rowV 6 ∧ Trs w0 w' As As := by
  have S := St.begin H
  refine enter0 2 Tryz.func69 rfl rfl ?_; intro a E
  refine wp_seq_k ?_; intro K hK
  refine zAb ?_
  refine zAo rfl (zBy E S rfl rfl (by decide) rfl rfl rfl ?_); clear E S a; intro a w b0 E S
  refine wpList_nil ?_
  refine zAf hK ?_; clear hK; clear K
  refine wp_seq_k ?_; intro K hK
  refine zAb ?_
  refine zp E (zCv (cells := [_, _, _]) E rfl rfl rfl) ?_; clear E a; intro a E
  refine zAo rfl (zBk E S rfl rfl rfl rfl (by simp [Value.oneCell']) rfl (by repeat (first | exact pk1 | apply zAc)) (by simp) ?_); clear E S a; intro a w E S; simp only [List.take_succ_cons, List.take_zero, List.drop_succ_cons, List.drop_zero, List.cons_append, List.nil_append, List.append_nil, List.length_cons, List.length_nil, Nat.zero_add, Nat.add_zero] at S
  refine wpList_nil ?_
  refine zAf hK ?_; clear hK; clear K
  refine wp_ret ?_
  refine zIe E rfl rfl (S.get (by repeat (first | exact pk1 | apply zAc))) rfl ?_
  exact ⟨_, rfl, rfl, S.tail.tr⟩
theorem beginRow_ret (As : List zAw) (w0 : World) (H : Hp w0 As) : Ret Tryz.prog 54 #[] w0 fun u w' => u = rowV 2 ∧ Trs w0 w' As As := by
  have S := St.begin H
  refine enter0 6 Tryz.func54 rfl rfl ?_; intro a E
  refine wp_seq_k ?_; intro K hK
  refine zAb ?_
  refine zAo rfl (zBy E S rfl rfl (by decide) rfl rfl rfl ?_); clear E S a; intro a w b0 E S
  refine wpList_nil ?_
  refine zAf hK ?_; clear hK; clear K
  refine wp_seq_k ?_; intro K hK
  refine zAb ?_
  refine zp E (zAd E rfl rfl) ?_; clear E a; intro a E
  refine wpList_nil ?_
  refine zAf hK ?_; clear hK; clear K
  refine wp_seq_k ?_; intro K hK
  refine zAb ?_
  refine zp E (zAd E rfl rfl) ?_; clear E a; intro a E
  refine wpList_nil ?_
  refine zAf hK ?_; clear hK; clear K
  refine wp_seq_k ?_; intro K hK
  refine zAb ?_
  iterate 2 (refine zp E (zAe E rfl rfl) ?_; clear E a; intro a E)
  refine zp E (zCv (cells := [_, _, _]) E rfl rfl rfl) ?_; clear E a; intro a E
  refine zAo rfl (zBk E S rfl rfl rfl rfl (by simp [Value.oneCell']) rfl (by repeat (first | exact pk1 | apply zAc)) (by simp) ?_); clear E S a; intro a w E S; simp only [List.take_succ_cons, List.take_zero, List.drop_succ_cons, List.drop_zero, List.cons_append, List.nil_append, List.append_nil, List.length_cons, List.length_nil, Nat.zero_add, Nat.add_zero] at S
  refine wpList_nil ?_
  refine zAf hK ?_; clear hK; clear K
  refine wp_ret ?_
  refine zIe E rfl rfl (S.get (by repeat (first | exact pk1 | apply zAc))) rfl ?_
  exact ⟨_, rfl, rfl, S.tail.tr⟩
theorem zJk (As : List zAw) (w0 : World) (H : Hp w0 As) : Ret Tryz.prog 25 #[] w0 fun u w' => ∃ g, u = .map (some g) ∧ Trs w0 w' As ([(g, .map zHn 7)] :: As) := by
  have S := St.begin H
  refine enter0 10 Tryz.func25 rfl rfl ?_; intro a E
  refine wp_seq_k ?_; intro K hK
  refine zAb ?_
  refine zp E (zAd E rfl rfl) ?_; clear E a; intro a E
  refine wpList_nil ?_
  refine zAf hK ?_; clear hK; clear K
  refine wp_seq_k ?_; intro K hK
  refine zAb ?_
  refine zAo rfl (wp_makeMap E S rfl rfl (by decide) ?_); clear E S a; intro a w b1 E S
  refine zp E (zCv (cells := [_, _, _]) E rfl rfl rfl) ?_; clear E a; intro a E
  refine zAo rfl (zFp E S (.inr rfl) rfl rfl rfl rfl rfl rfl (by repeat (first | exact pk1 | apply zAc)) rfl ?_); clear E S a; intro a w E S
  refine zAp E rfl rfl (by decide) rfl Tryz.func54 rfl (by kernel_rfl) rfl (beginRow_ret _ _ S.hp) ?_
  rintro v3 w ⟨rfl, hT⟩; clear E a; intro a E
  have S := S.all hT
  refine zAo rfl (zFp E S (.inr rfl) rfl rfl rfl rfl rfl rfl (by repeat (first | exact pk1 | apply zAc)) rfl ?_); clear E S a; intro a w E S
  refine zp E (zCv (cells := [_, _, _]) E rfl rfl rfl) ?_; clear E a; intro a E
  refine zAo rfl (zFp E S (.inr rfl) rfl rfl rfl rfl rfl rfl (by repeat (first | exact pk1 | apply zAc)) rfl ?_); clear E S a; intro a w E S
  refine zp E (zCv (cells := [_, _, _]) E rfl rfl rfl) ?_; clear E a; intro a E
  refine zAo rfl (zFp E S (.inr rfl) rfl rfl rfl rfl rfl rfl (by repeat (first | exact pk1 | apply zAc)) rfl ?_); clear E S a; intro a w E S
  refine zp E (zCv (cells := [_, _, _]) E rfl rfl rfl) ?_; clear E a; intro a E
  refine zAo rfl (zFp E S (.inr rfl) rfl rfl rfl rfl rfl rfl (by repeat (first | exact pk1 | apply zAc)) rfl ?_); clear E S a; intro a w E S
  refine zAp E rfl rfl (by decide) rfl Tryz.func69 rfl (by kernel_rfl) rfl (many_ret _ _ S.hp) ?_
  rintro v7 w ⟨rfl, hT⟩; clear E a; intro a E
  have S := S.all hT
  refine zAo rfl (zFp E S (.inr rfl) rfl rfl rfl rfl rfl rfl (by repeat (first | exact pk1 | apply zAc)) rfl ?_); clear E S a; intro a w E S
  refine zAp E rfl rfl (by decide) rfl Tryz.func69 rfl (by kernel_rfl) rfl (many_ret _ _ S.hp) ?_
  rintro v8 w ⟨rfl, hT⟩; clear E a; intro a E
  have S := S.all hT
  refine zAo rfl (zFp E S (.inr rfl) rfl rfl rfl rfl rfl rfl (by repeat (first | exact pk1 | apply zAc)) rfl ?_); clear E S a; intro a w E S
  refine zp E (zAe E rfl rfl) ?_; clear E a; intro a E
  refine zp E (zAd E rfl rfl) ?_; clear E a; intro a E
  refine wpList_nil ?_
  refine zAf hK ?_; clear hK; clear K
  refine wp_ret ?_
  refine ret1 E rfl rfl ?_
  exact ⟨_, rfl, b1, rfl, S.tr⟩
noncomputable def mayK (k : Int) (r : Rec) : Bool := if k = 1 then may1 r else if k = 2 then begB r else if k = 3 then may3 r else if k = 4 then may4 r else if k = 5 then may5 r else may6 r
noncomputable def ckB (r : Rec) : Bool := @decide (inK r.kind) (Classical.propDecidable _) && (mayK r.kind r && zCs (zDr r))
noncomputable def ckE (r : Rec) : Int := if ckB r = true then 0 else 200
theorem mayF_fn {k : Int} (h : inK k) : ∃ fn : Func, Tryz.prog.funcs[mayF k]? = some fn ∧ fn.body.isSome = true ∧ (fn.name == "runtime.NumGoroutine") = false := by
  rcases zEt h with rfl | rfl | rfl | rfl | rfl | rfl | rfl
  · exact ⟨_, Tryz.func47, rfl, by kernel_rfl⟩
  · exact ⟨_, Tryz.func96, rfl, by kernel_rfl⟩
  · exact ⟨_, Tryz.func55, rfl, by kernel_rfl⟩
  · exact ⟨_, Tryz.func61, rfl, by kernel_rfl⟩
  · exact ⟨_, Tryz.func64, rfl, by kernel_rfl⟩
  · exact ⟨_, Tryz.func99, rfl, by kernel_rfl⟩
  · exact ⟨_, Tryz.func99, rfl, by kernel_rfl⟩
theorem mayK_ret {C : zAw} {r : Rec} {pv kv dv : Value} (hR : RecR C r pv kv dv) (hs : Sml r) {As : List zAw} (hC : C ∈ As) (w0 : World) (H : Hp w0 As) {k : Int} (h : inK k) :
    Ret Tryz.prog (mayF k) #[.agg (r.cells pv kv dv).toArray] w0 fun u w' => u = .bool (mayK k r) ∧ Trs w0 w' As As := by
  rcases zEt h with rfl | rfl | rfl | rfl | rfl | rfl | rfl
  · exact may1_ret hR hs hC w0 H
  · exact begin_ret hR hs hC w0 H
  · exact may3_ret hR hs hC w0 H
  · exact may4_ret hR hs hC w0 H
  · exact may5_ret hR hs hC w0 H
  · exact may6_ret hR hs hC w0 H
  · exact may6_ret hR hs hC w0 H
theorem zIk {C : zAw} {r : Rec} {pv kv dv : Value} (hR : RecR C r pv kv dv) (hs : Sml r) {As : List zAw} (hC : C ∈ As) (w0 : World) (H : Hp w0 As) :
    Ret Tryz.prog 11 #[.agg (r.cells pv kv dv).toArray] w0 fun u w' => u = .int .i64 (ckE r) ∧ Trs w0 w' As As := by
  have S := St.begin H
  obtain ⟨ad1, c1, rfl⟩ := hR.pr.slice
  obtain ⟨ad2, c2, rfl⟩ := hR.kr.slice
  obtain ⟨ad3, c3, rfl⟩ := hR.dr.slice
  refine zCu 27 Tryz.func11 rfl rfl (by decide) ?_; intro a E
  refine wp_seq_k ?_; intro K hK
  refine zAb ?_
  refine zAo rfl (zCm E S rfl rfl (by decide) rfl rfl ?_); clear E S a; intro a w b1 E S
  refine zp E (zAd E rfl rfl) ?_; clear E a; intro a E
  refine wpList_nil ?_
  refine zAf hK ?_; clear hK; clear K
  refine wp_seq_k ?_; intro K hK
  refine zEc (fun (a : Act) (w' : World) => ∃ z f1 f2 f3 b3, (z = true ↔ inK r.kind) ∧ (inK r.kind → f1 = fnv (mayF r.kind)) ∧ St w0 As w' ([(b3, cel [f1, f2, f3] 59)] :: [(b1, cel (r.cells (.slice ad1 r.props.length c1) (.slice ad2 r.keep.length c2) (.slice ad3 r.data.length c3)) 26)] :: As) ∧ Fr a 27 [(1, ptr b1), (2, .int .i64 0), (3, ptr b3), (4, .bool z)]) ?_ ?_
  · skip
    refine zDp S (.cons (1, 0) (.cons (2, 0) (.fork 0 (.fork 3 (.ofL [(4, 0), (5, 0), (6, 2), (7, 1), (8, 3), (9, 2)]) 7 (.ofL [(3, 1), (4, 0), (5, 0), (6, 2), (8, 3), (9, 2)])) 7 (.ofL [(0, 1), (3, 1), (4, 0), (5, 0), (6, 2), (8, 3), (9, 2)])))) [[(b1, cel (r.cells (.slice ad1 r.props.length c1) (.slice ad2 r.keep.length c2) (.slice ad3 r.data.length c3)) 26)]] (fun h => h.sub (by first | (simp; done) | (simp +contextual; done) | (simp [*]; done))) (by kernel_rfl) (by kernel_rfl) ?_
    clear S; intro w S
    refine zm E rfl (fun w h => by first | exact zAg (q := 0) E rfl rfl rfl | exact zAh (q := 0) E rfl rfl rfl) ?_; clear E a; intro a E
    refine zm E rfl (fun w h => by first | exact zAn E rfl rfl rfl (h.one (by repeat (first | exact mm1 | assumption | apply List.Mem.tail))) rfl | exact zAj E rfl rfl rfl (by assumption)) ?_; clear E a; intro a E
    refine ⟨?_, ?_⟩
    · skip
      refine zCd E rfl rfl rfl (by decide) rfl Tryz.func25 rfl (by kernel_rfl) rfl (zJk _ _ S.hp) ?_
      rintro v6 w ⟨g, rfl, hT⟩; clear E a; intro a E
      have S := S.all hT
      refine ⟨S.stab.sub (by first | (simp; done) | (simp +contextual; done) | (simp [*]; done)), ?_⟩
      refine ⟨?_, ?_⟩
      · skip
        rcases Classical.em (inK r.kind) with hk | hk
        · skip
          obtain ⟨ix, hrow⟩ := row_is hk
          refine zDm rfl rfl (zGj E (zFw (v := .agg [fnv (mayF r.kind), fnv (layF r.kind), fnv (takF r.kind)].toArray) E rfl rfl rfl rfl rfl (S.get (by repeat (first | exact pk1 | apply zAc))) hrow) rfl (by decide) ?_); clear E a; intro a E; refine ⟨S.stab.sub (by first | (simp; done) | (simp +contextual; done) | (simp [*]; done)), ?_⟩
          refine zm E rfl (fun w h => zAe E rfl rfl) ?_; clear E a; intro a E
          refine zm E rfl (fun w h => zBr E rfl rfl rfl) ?_; clear E a; intro a E
          refine zDi E rfl rfl rfl (by decide) (fun w => zBr E rfl rfl rfl) ?_; clear E a; intro a E
          refine zDm rfl rfl (zBy E S rfl rfl (by decide) rfl rfl rfl ?_); clear E S a; intro a w b3 E S; refine ⟨S.stab.sub (by first | (simp; done) | (simp +contextual; done) | (simp [*]; done)), ?_⟩
          refine zCt rfl rfl (zBk E S rfl rfl rfl rfl (by simp [Value.oneCell']) rfl (by repeat (first | exact pk1 | apply zAc)) (by simp) ?_); clear E S a; intro a w E S; simp only [List.take_succ_cons, List.take_zero, List.drop_succ_cons, List.drop_zero, List.cons_append, List.nil_append, List.append_nil, List.length_cons, List.length_nil, Nat.zero_add, Nat.add_zero] at S
          refine zDi E rfl rfl rfl (by decide) (fun w => zAd E rfl rfl) ?_; clear E a; intro a E
          refine zBz ?_
          refine zAv ?_
          first
            | exact ⟨_, _, _, _, _, by simp [hk], fun _ => rfl, ((S.front1 (A := [(g, .map zHn 7)]) (by repeat (first | exact pk1 | apply zAc))).tail).front2 (by repeat (first | exact pk1 | apply zAc)) (by repeat (first | exact pk1 | apply zAc)), E.keep (zAa rfl (zAa rfl (zAa rfl (zAa rfl zAm))))⟩
            | exact ⟨_, _, _, _, _, by simp [hk], fun q => absurd q hk, ((S.front1 (A := [(g, .map zHn 7)]) (by repeat (first | exact pk1 | apply zAc))).tail).front2 (by repeat (first | exact pk1 | apply zAc)) (by repeat (first | exact pk1 | apply zAc)), E.keep (zAa rfl (zAa rfl (zAa rfl (zAa rfl zAm))))⟩
        · skip
          refine zDm rfl rfl (zGj E (zFg E rfl rfl rfl rfl rfl rfl rfl (S.get (by repeat (first | exact pk1 | apply zAc))) (row_not hk)) rfl (by decide) ?_); clear E a; intro a E; refine ⟨S.stab.sub (by first | (simp; done) | (simp +contextual; done) | (simp [*]; done)), ?_⟩
          refine zm E rfl (fun w h => zAe E rfl rfl) ?_; clear E a; intro a E
          refine zm E rfl (fun w h => zBr E rfl rfl rfl) ?_; clear E a; intro a E
          refine zDi E rfl rfl rfl (by decide) (fun w => zBr E rfl rfl rfl) ?_; clear E a; intro a E
          refine zDm rfl rfl (zBy E S rfl rfl (by decide) rfl rfl rfl ?_); clear E S a; intro a w b3 E S; refine ⟨S.stab.sub (by first | (simp; done) | (simp +contextual; done) | (simp [*]; done)), ?_⟩
          refine zCt rfl rfl (zBk E S rfl rfl rfl rfl (by simp [Value.oneCell']) rfl (by repeat (first | exact pk1 | apply zAc)) (by simp) ?_); clear E S a; intro a w E S; simp only [List.take_succ_cons, List.take_zero, List.drop_succ_cons, List.drop_zero, List.cons_append, List.nil_append, List.append_nil, List.length_cons, List.length_nil, Nat.zero_add, Nat.add_zero] at S
          refine zDi E rfl rfl rfl (by decide) (fun w => zAd E rfl rfl) ?_; clear E a; intro a E
          refine zBz ?_
          refine zAv ?_
          first
            | exact ⟨_, _, _, _, _, by simp [hk], fun _ => rfl, ((S.front1 (A := [(g, .map zHn 7)]) (by repeat (first | exact pk1 | apply zAc))).tail).front2 (by repeat (first | exact pk1 | apply zAc)) (by repeat (first | exact pk1 | apply zAc)), E.keep (zAa rfl (zAa rfl (zAa rfl (zAa rfl zAm))))⟩
            | exact ⟨_, _, _, _, _, by simp [hk], fun q => absurd q hk, ((S.front1 (A := [(g, .map zHn 7)]) (by repeat (first | exact pk1 | apply zAc))).tail).front2 (by repeat (first | exact pk1 | apply zAc)) (by repeat (first | exact pk1 | apply zAc)), E.keep (zAa rfl (zAa rfl (zAa rfl (zAa rfl zAm))))⟩
      · skip
        refine zDm rfl rfl (zBy E S rfl rfl (by decide) rfl rfl rfl ?_); clear E S a; intro a w b3 E S; refine ⟨S.stab.sub (by first | (simp; done) | (simp +contextual; done) | (simp [*]; done)), ?_⟩
        rcases Classical.em (inK r.kind) with hk | hk
        · skip
          obtain ⟨ix, hrow⟩ := row_is hk
          refine zDm rfl rfl (zGj E (zFw (v := .agg [fnv (mayF r.kind), fnv (layF r.kind), fnv (takF r.kind)].toArray) E rfl rfl rfl rfl rfl (S.get (by repeat (first | exact pk1 | apply zAc))) hrow) rfl (by decide) ?_); clear E a; intro a E; refine ⟨S.stab.sub (by first | (simp; done) | (simp +contextual; done) | (simp [*]; done)), ?_⟩
          refine zm E rfl (fun w h => zAe E rfl rfl) ?_; clear E a; intro a E
          refine zm E rfl (fun w h => zBr E rfl rfl rfl) ?_; clear E a; intro a E
          refine zDi E rfl rfl rfl (by decide) (fun w => zBr E rfl rfl rfl) ?_; clear E a; intro a E
          refine zCt rfl rfl (zBk E S rfl rfl rfl rfl (by simp [Value.oneCell']) rfl (by repeat (first | exact pk1 | apply zAc)) (by simp) ?_); clear E S a; intro a w E S; simp only [List.take_succ_cons, List.take_zero, List.drop_succ_cons, List.drop_zero, List.cons_append, List.nil_append, List.append_nil, List.length_cons, List.length_nil, Nat.zero_add, Nat.add_zero] at S
          refine zDi E rfl rfl rfl (by decide) (fun w => zAd E rfl rfl) ?_; clear E a; intro a E
          refine zBz ?_
          refine zAv ?_
          first
            | exact ⟨_, _, _, _, _, by simp [hk], fun _ => rfl, ((S.front1 (A := [(g, .map zHn 7)]) (by repeat (first | exact pk1 | apply zAc))).tail).front2 (by repeat (first | exact pk1 | apply zAc)) (by repeat (first | exact pk1 | apply zAc)), E.keep (zAa rfl (zAa rfl (zAa rfl (zAa rfl zAm))))⟩
            | exact ⟨_, _, _, _, _, by simp [hk], fun q => absurd q hk, ((S.front1 (A := [(g, .map zHn 7)]) (by repeat (first | exact pk1 | apply zAc))).tail).front2 (by repeat (first | exact pk1 | apply zAc)) (by repeat (first | exact pk1 | apply zAc)), E.keep (zAa rfl (zAa rfl (zAa rfl (zAa rfl zAm))))⟩
        · skip
          refine zDm rfl rfl (zGj E (zFg E rfl rfl rfl rfl rfl rfl rfl (S.get (by repeat (first | exact pk1 | apply zAc))) (row_not hk)) rfl (by decide) ?_); clear E a; intro a E; refine ⟨S.stab.sub (by first | (simp; done) | (simp +contextual; done) | (simp [*]; done)), ?_⟩
          refine zm E rfl (fun w h => zAe E rfl rfl) ?_; clear E a; intro a E
          refine zm E rfl (fun w h => zBr E rfl rfl rfl) ?_; clear E a; intro a E
          refine zDi E rfl rfl rfl (by decide) (fun w => zBr E rfl rfl rfl) ?_; clear E a; intro a E
          refine zCt rfl rfl (zBk E S rfl rfl rfl rfl (by simp [Value.oneCell']) rfl (by repeat (first | exact pk1 | apply zAc)) (by simp) ?_); clear E S a; intro a w E S; simp only [List.take_succ_cons, List.take_zero, List.drop_succ_cons, List.drop_zero, List.cons_append, List.nil_append, List.append_nil, List.length_cons, List.length_nil, Nat.zero_add, Nat.add_zero] at S
          refine zDi E rfl rfl rfl (by decide) (fun w => zAd E rfl rfl) ?_; clear E a; intro a E
          refine zBz ?_
          refine zAv ?_
          first
            | exact ⟨_, _, _, _, _, by simp [hk], fun _ => rfl, ((S.front1 (A := [(g, .map zHn 7)]) (by repeat (first | exact pk1 | apply zAc))).tail).front2 (by repeat (first | exact pk1 | apply zAc)) (by repeat (first | exact pk1 | apply zAc)), E.keep (zAa rfl (zAa rfl (zAa rfl (zAa rfl zAm))))⟩
            | exact ⟨_, _, _, _, _, by simp [hk], fun q => absurd q hk, ((S.front1 (A := [(g, .map zHn 7)]) (by repeat (first | exact pk1 | apply zAc))).tail).front2 (by repeat (first | exact pk1 | apply zAc)) (by repeat (first | exact pk1 | apply zAc)), E.keep (zAa rfl (zAa rfl (zAa rfl (zAa rfl zAm))))⟩
    · skip
      refine zDm rfl rfl (zBy E S rfl rfl (by decide) rfl rfl rfl ?_); clear E S a; intro a w b3 E S; refine ⟨S.stab.sub (by first | (simp; done) | (simp +contextual; done) | (simp [*]; done)), ?_⟩
      refine zCd E rfl rfl rfl (by decide) rfl Tryz.func25 rfl (by kernel_rfl) rfl (zJk _ _ S.hp) ?_
      rintro v6 w ⟨g, rfl, hT⟩; clear E a; intro a E
      have S := S.all hT
      refine ⟨S.stab.sub (by first | (simp; done) | (simp +contextual; done) | (simp [*]; done)), ?_⟩
      rcases Classical.em (inK r.kind) with hk | hk
      · skip
        obtain ⟨ix, hrow⟩ := row_is hk
        refine zDm rfl rfl (zGj E (zFw (v := .agg [fnv (mayF r.kind), fnv (layF r.kind), fnv (takF r.kind)].toArray) E rfl rfl rfl rfl rfl (S.get (by repeat (first | exact pk1 | apply zAc))) hrow) rfl (by decide) ?_); clear E a; intro a E; refine ⟨S.stab.sub (by first | (simp; done) | (simp +contextual; done) | (simp [*]; done)), ?_⟩
        refine zm E rfl (fun w h => zAe E rfl rfl) ?_; clear E a; intro a E
        refine zm E rfl (fun w h => zBr E rfl rfl rfl) ?_; clear E a; intro a E
        refine zDi E rfl rfl rfl (by decide) (fun w => zBr E rfl rfl rfl) ?_; clear E a; intro a E
        refine zCt rfl rfl (zBk E S rfl rfl rfl rfl (by simp [Value.oneCell']) rfl (by repeat (first | exact pk1 | apply zAc)) (by simp) ?_); clear E S a; intro a w E S; simp only [List.take_succ_cons, List.take_zero, List.drop_succ_cons, List.drop_zero, List.cons_append, List.nil_append, List.append_nil, List.length_cons, List.length_nil, Nat.zero_add, Nat.add_zero] at S
        refine zDi E rfl rfl rfl (by decide) (fun w => zAd E rfl rfl) ?_; clear E a; intro a E
        refine zBz ?_
        refine zAv ?_
        first
          | exact ⟨_, _, _, _, _, by simp [hk], fun _ => rfl, ((S.front1 (A := [(g, .map zHn 7)]) (by repeat (first | exact pk1 | apply zAc))).tail).front2 (by repeat (first | exact pk1 | apply zAc)) (by repeat (first | exact pk1 | apply zAc)), E.keep (zAa rfl (zAa rfl (zAa rfl (zAa rfl zAm))))⟩
          | exact ⟨_, _, _, _, _, by simp [hk], fun q => absurd q hk, ((S.front1 (A := [(g, .map zHn 7)]) (by repeat (first | exact pk1 | apply zAc))).tail).front2 (by repeat (first | exact pk1 | apply zAc)) (by repeat (first | exact pk1 | apply zAc)), E.keep (zAa rfl (zAa rfl (zAa rfl (zAa rfl zAm))))⟩
      · skip
        refine zDm rfl rfl (zGj E (zFg E rfl rfl rfl rfl rfl rfl rfl (S.get (by repeat (first | exact pk1 | apply zAc))) (row_not hk)) rfl (by decide) ?_); clear E a; intro a E; refine ⟨S.stab.sub (by first | (simp; done) | (simp +contextual; done) | (simp [*]; done)), ?_⟩
        refine zm E rfl (fun w h => zAe E rfl rfl) ?_; clear E a; intro a E
        refine zm E rfl (fun w h => zBr E rfl rfl rfl) ?_; clear E a; intro a E
        refine zDi E rfl rfl rfl (by decide) (fun w => zBr E rfl rfl rfl) ?_; clear E a; intro a E
        refine zCt rfl rfl (zBk E S rfl rfl rfl rfl (by simp [Value.oneCell']) rfl (by repeat (first | exact pk1 | apply zAc)) (by simp) ?_); clear E S a; intro a w E S; simp only [List.take_succ_cons, List.take_zero, List.drop_succ_cons, List.drop_zero, List.cons_append, List.nil_append, List.append_nil, List.length_cons, List.length_nil, Nat.zero_add, Nat.add_zero] at S
        refine zDi E rfl rfl rfl (by decide) (fun w => zAd E rfl rfl) ?_; clear E a; intro a E
        refine zBz ?_
        refine zAv ?_
        first
          | exact ⟨_, _, _, _, _, by simp [hk], fun _ => rfl, ((S.front1 (A := [(g, .map zHn 7)]) (by repeat (first | exact pk1 | apply zAc))).tail).front2 (by repeat (first | exact pk1 | apply zAc)) (by repeat (first | exact pk1 | apply zAc)), E.keep (zAa rfl (zAa rfl (zAa rfl (zAa rfl zAm))))⟩
          | exact ⟨_, _, _, _, _, by simp [hk], fun q => absurd q hk, ((S.front1 (A := [(g, .map zHn 7)]) (by repeat (first | exact pk1 | apply zAc))).tail).front2 (by repeat (first | exact pk1 | apply zAc)) (by repeat (first | exact pk1 | apply zAc)), E.keep (zAa rfl (zAa rfl (zAa rfl (zAa rfl zAm))))⟩
  · clear E S a; intro a w J; obtain ⟨z, f1, f2, f3, b3, hz, hf, S, E⟩ := J
    refine zAf hK ?_; clear hK; clear K
    iterate 2 (refine wp_seq_k ?_; intro K hK)
    refine zAb ?_
    refine zp E (zAe E rfl rfl) ?_; clear E a; intro a E
    refine zp E (zDe E rfl rfl) ?_; clear E a; intro a E
    refine zp E (zAe E rfl rfl) ?_; clear E a; intro a E
    refine zAr E (t := 14) rfl (fun hb14 => ?_) (fun hb14 => ?_)
    · have hb14n := hb14; replace hb14n := Nrm.nrm hb14n
      iterate 5 (refine zn E hb14 ?_; clear E a; intro a E)
      refine zp E (zAk E rfl rfl hb14 rfl) ?_; clear E a; intro a E
      refine zp E (zAe E rfl rfl) ?_; clear E a; intro a E
      iterate 4 (refine zn E rfl ?_; clear E a; intro a E)
      refine zp E (zAk E rfl rfl rfl rfl) ?_; clear E a; intro a E
      refine wpList_nil ?_
      refine zAf hK ?_; clear hK; clear K
      refine zCe E rfl rfl ?_
      refine wp_seq_k ?_; intro K hK
      refine zAb ?_
      refine zp E (zAd E rfl rfl) ?_; clear E a; intro a E
      refine wpList_nil ?_
      refine zAf hK ?_; clear hK; clear K
      refine wp_ret ?_
      refine zAy ?_; clear hK; clear K
      refine ret1 E rfl rfl ?_
      refine ⟨_, rfl, ?_, S.tail2.tr⟩
      clear S E H hR hs
      simp_all [ckE, ckB]
    · have hb14n := hb14; replace hb14n := Nrm.nrm hb14n
      have hk := hz.1 (by simpa using hb14); obtain rfl := hf hk; obtain ⟨fn, q1, q2, q3⟩ := mayF_fn hk
      refine zy E hb14 (by first | exact zAg (q := 0) E rfl rfl rfl | exact zAh (q := 0) E rfl rfl rfl) ?_; clear E a; intro a E
      refine zy E hb14 (by first | exact zAn E rfl rfl rfl (S.get (by repeat (first | exact pk1 | apply zAc))) rfl | exact zAj E rfl rfl rfl (by assumption)) ?_; clear E a; intro a E
      refine zy E hb14 (zBn (vs := [_, _, _, _, _, _, _, _, _, _, _, _, _]) E rfl rfl rfl (S.get (by repeat (first | exact pk1 | apply zAc))) rfl rfl) ?_; clear E a; intro a E
      refine zBx E rfl rfl rfl rfl hb14 ?_; refine zJu E rfl (by decide) rfl rfl q1 q2 q3 rfl (mayK_ret hR hs (List.mem_cons_of_mem _ (List.mem_cons_of_mem _ hC)) _ S.hp hk) ?_
      rintro v18 w ⟨rfl, hT⟩; clear E a; intro a E
      have S := S.all hT
      refine zy E hb14 (zDe E rfl rfl) ?_; clear E a; intro a E
      refine zp E (zAi E rfl rfl hb14 rfl) ?_; clear E a; intro a E
      refine zp E (zAe E rfl rfl) ?_; clear E a; intro a E
      refine zAr E (t := 21) rfl (fun hb21 => ?_) (fun hb21 => ?_)
      · have hb21n := hb21; replace hb21n := Nrm.nrm hb21n
        iterate 4 (refine zn E hb21 ?_; clear E a; intro a E)
        refine zp E (zAk E rfl rfl hb21 rfl) ?_; clear E a; intro a E
        refine wpList_nil ?_
        refine zAf hK ?_; clear hK; clear K
        refine zCe E rfl rfl ?_
        refine wp_seq_k ?_; intro K hK
        refine zAb ?_
        refine zp E (zAd E rfl rfl) ?_; clear E a; intro a E
        refine wpList_nil ?_
        refine zAf hK ?_; clear hK; clear K
        refine wp_ret ?_
        refine zAy ?_; clear hK; clear K
        refine ret1 E rfl rfl ?_
        refine ⟨_, rfl, ?_, S.tail2.tr⟩
        clear S E H hR hs
        simp_all [ckE, ckB]
      · have hb21n := hb21; replace hb21n := Nrm.nrm hb21n
        refine zy E hb21 (zBn (vs := [_, _, _, _, _, _, _, _, _, _, _, _, _]) E rfl rfl rfl (S.get (by repeat (first | exact pk1 | apply zAc))) rfl rfl) ?_; clear E a; intro a E
        refine zBx E rfl rfl rfl rfl hb21 ?_; refine zCo E rfl (by decide) rfl Tryz.func27 rfl (by kernel_rfl) rfl (bare_ret hR _ S.hp) ?_
        rintro v23 w ⟨pv', kv', dv', rfl, hR', hT⟩; clear E a; intro a E
        have S := S.all hT
        refine zBx E rfl rfl rfl rfl hb21 ?_; refine zCo E rfl (by decide) rfl Tryz.func26 rfl (by kernel_rfl) rfl (empty_ret hR' hs.bare _ S.hp) ?_
        rintro v24 w ⟨rfl, hT⟩; clear E a; intro a E
        have S := S.all hT
        refine zy E hb21 (zDe E rfl rfl) ?_; clear E a; intro a E
        refine zp E (zAi E rfl rfl hb21 rfl) ?_; clear E a; intro a E
        refine wpList_nil ?_
        refine zAf hK ?_; clear hK; clear K
        refine zBh E rfl (fun hb => ?_) (fun hb => ?_)
        · replace hb := Nrm.nrm hb
          refine wp_seq_k ?_; intro K hK
          refine zAb ?_
          refine zp E (zAd E rfl rfl) ?_; clear E a; intro a E
          refine wpList_nil ?_
          refine zAf hK ?_; clear hK; clear K
          refine wp_ret ?_
          refine zAy ?_; clear hK; clear K
          refine ret1 E rfl rfl ?_
          refine ⟨_, rfl, ?_, S.tail2.tr⟩
          clear S E H hR hs
          simp_all [ckE, ckB]
        · replace hb := Nrm.nrm hb
          refine wp_skip ?_
          refine zAf hK ?_; clear hK; clear K
          refine wp_seq_k ?_; intro K hK
          refine zAb ?_
          refine zp E (zAd E rfl rfl) ?_; clear E a; intro a E
          refine wpList_nil ?_
          refine zAf hK ?_; clear hK; clear K
          refine wp_ret ?_
          refine ret1 E rfl rfl ?_
          refine ⟨_, rfl, ?_, S.tail2.tr⟩
          clear S E H hR hs
          simp_all [ckE, ckB]
end Go.Proofs.YtbogecljkaimdaaGreatDoor
namespace Go.Sl
def txt (t : List UInt8) : List UInt8 := zBv t.length 2 ++ t
theorem zCr (t : List UInt8) : (txt t).length = 2 + t.length := by simp [txt, zBc]
theorem text_fits {s : Wr} {t : List UInt8} (he : s.e = 0) (h1 : t.length ≤ 65535) (hr : s.bs.length + (2 + t.length) ≤ s.room) : s.text t = { s with bs := s.bs ++ txt t } := by
  have hf : s.fits (txt t) = true := by simp only [Wr.fits, zCr, decide_eq_true_eq]; omega
  have hg : ¬ t.length > 65535 := by omega
  have ht : textE t = .inr (txt t) := by simp only [textE, if_neg hg]; rfl
  simp [Wr.text, Wr.lay, ht, he, Wr.putE, Wr.putS, hf]
theorem zKd {z : Int} (h : 0 ≤ z) (h2 : z ≤ 9223372036854775807) : IntKind.u64.wrap z = ((z.toNat : Nat) : Int) := by
  rw [IntWalk.u64_in _ (by omega)]; omega
def zFk (l : List Int) (size : Nat) (more : Int) : List UInt8 := l.flatMap fun n => zBv (n + more).toNat size
theorem zEz (l : List Int) (size : Nat) (more : Int) : (zFk l size more).length = l.length * size := by
  induction l with
  | nil => simp [zFk]
  | cons a l ih =>
    have : zFk (a :: l) size more = zBv (a + more).toNat size ++ zFk l size more := rfl
    rw [this, List.length_append, ih, zBc, List.length_cons, Nat.succ_mul]; omega
theorem zIq {l : List Int} {i : Nat} (h : i < l.length) (size : Nat) (more : Int) : zFk (l.take (i + 1)) size more = zFk (l.take i) size more ++ zBv (l[i] + more).toNat size := by
  rw [← List.take_append_getElem h]
  simp only [zFk, List.flatMap_append]
  simp
def zEs (l : List Prp) : List UInt8 := l.flatMap fun p => txt p.name ++ txt p.value
theorem zKe {l : List Prp} {i : Nat} (h : i < l.length) : zEs (l.take (i + 1)) = zEs (l.take i) ++ (txt l[i].name ++ txt l[i].value) := by
  rw [← List.take_append_getElem h]
  simp only [zEs, List.flatMap_append]
  simp
theorem zKf {l : List Prp} (h : ∀ p ∈ l, p.name.length ≤ 24 ∧ p.value.length ≤ 64) : (zEs l).length ≤ 92 * l.length := by
  induction l with
  | nil => simp [zEs]
  | cons a l ih =>
    have h1 := h a (List.mem_cons_self ..)
    have h2 := ih fun p hp => h p (List.mem_cons_of_mem _ hp)
    have : zEs (a :: l) = (txt a.name ++ txt a.value) ++ zEs l := rfl
    rw [this, List.length_append, List.length_append, zCr, zCr, List.length_cons]; omega
def body1 (r : Rec) : List UInt8 := txt r.name ++ zBv r.many.toNat 2
def body2 (r : Rec) : List UInt8 := txt r.name ++ (zBv r.typ.toNat 1 ++ (zBv r.frm.toNat 6 ++ (zBv r.guid.toNat 6 ++ (zBv r.origin.toNat 1 ++ (txt r.snap ++ (zBv r.props.length 1 ++ zEs r.props))))))
def body3 (r : Rec) : List UInt8 := zBv r.keep.length 2 ++ zFk r.keep 4 0
def body4 (r : Rec) : List UInt8 := zBv r.object.toNat 4 ++ (zBv r.keep.length 2 ++ zFk r.keep 2 1)
def body5 (r : Rec) : List UInt8 := zBv r.object.toNat 4 ++ (zBv (r.at_ + 1).toNat 2 ++ (zBv r.data.length 2 ++ r.data))
def body6 (r : Rec) : List UInt8 := zBv r.many.toNat 4
def zEl (k : Int) (r : Rec) : List UInt8 := if k = 1 then body1 r else if k = 2 then body2 r else if k = 3 then body3 r else if k = 4 then body4 r else if k = 5 then body5 r else body6 r
end Go.Sl
namespace Go.Proofs.YtbogecljkaimdaaGreatDoor
open Go.Sl
set_option maxRecDepth 10000
theorem zIl (p room : Nat) (bs : List UInt8) (A : zAw) (w0 : World) (hA : WrC 94 p ⟨room, bs, 0⟩ A) (t : List UInt8) (H : Hp w0 [A]) (hr : room ≤ 140737488355328) (h1 : t.length ≤ 65535) (hl : bs.length + (2 + t.length) ≤ room) :
    Ret Tryz.prog 51 #[ptr p, str t] w0 fun _ w' => ∃ A', WrC 94 p ⟨room, bs ++ txt t, 0⟩ A' ∧ Trs w0 w' [A] [A'] := by
  refine (text_ret p _ A w0 hA t H hr).mono fun v w' ⟨A', h, hT⟩ => ⟨A', ?_, hT⟩
  rw [text_fits rfl h1 hl] at h
  exact h
theorem zKg {C : zAw} {l : List Int} {v : Value} (hR : Rd C 1 v l.length (ints l)) (hl : l.length ≤ 240) (size : Nat) (more : Int) (h1 : 1 ≤ size) (h4 : size ≤ 4) (hm : 0 ≤ more ∧ more ≤ 1) (hbd : ∀ n ∈ l, 0 ≤ n + more ∧ n + more < 256 ^ size ∧ n ≤ 4294967296)
    (p : Nat) (bs : List UInt8) (A : zAw) (hA : WrC 94 p ⟨2048, bs, 0⟩ A) (hf : bs.length + 2 + l.length * size ≤ 2048) {As : List zAw} (hC : C ∈ As) (w0 : World) (H : Hp w0 (A :: As)) :
    Ret Tryz.prog 58 #[ptr p, v, .int .i64 size, .int .i64 more] w0 fun _ w' => ∃ A', WrC 94 p ⟨2048, bs ++ (zBv l.length 2 ++ zFk l size more), 0⟩ A' ∧ Trs w0 w' (A :: As) (A' :: As) := by
  have S := St.begin H
  obtain ⟨ad, c, rfl⟩ := hR.slice
  refine enter4 29 Tryz.func58 rfl rfl (by decide) ?_; intro a E
  refine wp_seq_k ?_; intro K hK
  refine zAb ?_
  iterate 2 (refine zp E (zAe E rfl rfl) ?_; clear E a; intro a E)
  refine zp E (by first | exact zBu E rfl rfl rfl | exact zAx E rfl rfl rfl | exact zAq E rfl rfl rfl) ?_; clear E a; intro a E
  refine zp E (by first | exact zBg E rfl rfl rfl rfl (by first | exact wu8 _ | exact zFe (by omega) | exact zDz (by omega) | exact w_in (by omega) | exact zBw (by omega) | exact rfl) | exact zCi E rfl rfl rfl rfl rfl (by assumption) (S.stab.at (by simp))) ?_; clear E a; intro a E
  refine zAp E rfl rfl (by decide) rfl Tryz.func30 rfl (by kernel_rfl) rfl (zEp p 2048 bs A _ hA l.length 2 (S.hp.sel (zAl (by repeat (first | exact pk1 | apply zAc)) (zAu _))) (by omega) (by omega) (by omega) (by omega) (by omega)) ?_
  rintro v14 w ⟨A1, hA1, hT⟩; clear E a; intro a E
  have S := S.call1 (zAl (by repeat (first | exact pk1 | apply zAc)) (zAu _)) hT
  refine wpList_nil ?_
  refine zAf hK ?_; clear hK; clear K
  refine wp_seq_k ?_; intro K hK
  refine zAb ?_
  refine zp E (zAe E rfl rfl) ?_; clear E a; intro a E
  refine zp E (by first | exact zBu E rfl rfl rfl | exact zAx E rfl rfl rfl | exact zAq E rfl rfl rfl) ?_; clear E a; intro a E
  refine zp E (zAe E rfl rfl) ?_; clear E a; intro a E
  refine wpList_nil ?_
  refine zAf hK ?_; clear hK; clear K
  refine wp_block ?_
  refine wp_loop_ghost (fun (m : Nat) (a : Act) (w' : World) => ∃ (i : Nat) (A' : zAw), m = l.length - i ∧ i ≤ l.length ∧ WrC 94 p ⟨2048, bs ++ (zBv l.length 2 ++ zFk (l.take i) size more), 0⟩ A' ∧ St w0 (A :: As) w' (A' :: As) ∧ Fr a 29 [(0, ptr p), (2, .int .i64 size), (3, .int .i64 more), (15, .slice ad l.length c), (16, .int .i64 l.length), (17, .int .i64 i)]) (l.length) ?_ ?_
  · exact ⟨0, A1, by omega, by omega, by simpa [zFk] using hA1, S, E.keep (zAa rfl (zAa rfl (zAa rfl (zAa rfl (zAa rfl (zAa rfl zAm))))))⟩
  clear E; clear a; (try clear S); rintro m a w ⟨i, A', rfl, hi, hA', S, E⟩
  refine wp_seq_k ?_; intro K hK
  refine zAb ?_
  refine zp E (zCk E rfl rfl rfl) ?_; clear E a; intro a E
  refine wpList_nil ?_
  refine zAf hK ?_; clear hK; clear K
  refine wp_seq_k ?_; intro K hK
  refine zBh E rfl (fun hb => ?_) (fun hb => ?_)
  · replace hb := Nrm.nrm hb
    refine wp_skip ?_
    refine zAf hK ?_; clear hK; clear K
    refine wp_seq_k ?_; intro K hK
    refine wp_block ?_
    refine wp_seq_k ?_; intro K hK
    have hil : i < l.length := by omega
    obtain ⟨b, off, rfl⟩ := hR.addr (by omega)
    have hbi := hbd _ (List.getElem_mem hil)
    have hki : i * size + size ≤ l.length * size := by rw [← Nat.succ_mul]; exact Nat.mul_le_mul_right _ hil
    refine zAb ?_
    refine zp E (by first | exact zBo E rfl rfl rfl rfl rfl rfl (by omega) | exact zBq E rfl rfl rfl rfl rfl rfl (by omega) | exact zBd E rfl rfl rfl rfl rfl rfl (by omega)) ?_; clear E a; intro a E
    refine zp E (zAj E rfl rfl rfl (hR.cells (S.stab.at (List.mem_cons_of_mem _ hC)) rfl i _ (zFq hil))) ?_; clear E a; intro a E
    refine zp E (zAd E rfl rfl) ?_; clear E a; intro a E
    refine wpList_nil ?_
    refine zAf hK ?_; clear hK; clear K
    refine zAb ?_
    iterate 3 (refine zp E (zAe E rfl rfl) ?_; clear E a; intro a E)
    refine zp E (zBt E rfl rfl rfl (w_in (by omega))) ?_; clear E a; intro a E
    refine zp E (zBg E rfl rfl rfl rfl (zKd hbi.1 (by omega))) ?_; clear E a; intro a E
    refine zp E (zAe E rfl rfl) ?_; clear E a; intro a E
    refine zAp E rfl rfl (by decide) rfl Tryz.func30 rfl (by kernel_rfl) rfl (zEp p 2048 _ A' _ hA' (l[i] + more).toNat size (S.hp.sel (zAl (by repeat (first | exact pk1 | apply zAc)) (zAu _))) (by omega) h1 (by omega) (by have := hbi.2.1; have h0 := hbi.1; exact (Int.toNat_lt h0).2 (by exact_mod_cast this)) (by simp only [List.length_append, zBc, zEz, List.length_take]; rw [Nat.min_eq_left hi]; omega)) ?_
    rintro v27 w ⟨A2, hA2, hT⟩; clear E a; intro a E
    have S := S.call1 (zAl (by repeat (first | exact pk1 | apply zAc)) (zAu _)) hT
    refine wpList_nil ?_
    refine zBe ?_
    refine zAf hK ?_; clear hK; clear K
    refine zAb ?_
    refine zp E (zBt E rfl rfl rfl (by first | exact zCh (y := 1) (by omega) | exact w_in (by omega) | exact zBw (by omega) | exact rfl)) ?_; clear E a; intro a E
    refine zp E (zAe E rfl rfl) ?_; clear E a; intro a E
    refine wpList_nil ?_
    refine zBj ?_
    exact ⟨_, by omega, i + 1, A2, rfl, by omega, by rw [zIq hil]; simpa using hA2, S, E.keep (zAa rfl (zAa rfl (zAa rfl (zAa rfl (zAa rfl (zAa rfl zAm))))))⟩
  · replace hb := Nrm.nrm hb
    refine wp_exit ?_
    refine zBa ?_; clear hK; clear K
    refine zBa ?_
    refine zCg ?_
    refine end0 E rfl ?_
    obtain rfl : i = l.length := by omega
    rw [List.take_length] at hA'
    exact ⟨_, rfl, A', hA', S.tr⟩
end Go.Proofs.YtbogecljkaimdaaGreatDoor
namespace Go.Sl
theorem zHh {l : List UInt8} (h : zFj l = true) : l.length ≤ 24 := ((partB_iff l).1 h).2.1
theorem zJl {r : Rec} (h : may1 r = true) : r.name.length ≤ 24 ∧ 1 ≤ r.many ∧ r.many ≤ 120 := by
  simp only [may1, Bool.and_eq_true, decide_eq_true_eq] at h
  exact ⟨zHh h.1, h.2⟩
theorem beh_len {l : List UInt8} (h : behB l = true) : l.length ≤ 240 := by
  cases l with
  | nil => simp
  | cons c l =>
    simp only [behB, Bool.and_eq_true, zGw] at h
    have := h.2.1
    simp only [List.length_cons] at *
    omega
theorem zJm {l : List Prp} (h : prpsB l = true) : l.length ≤ 12 ∧ ∀ p ∈ l, p.name.length ≤ 24 ∧ p.value.length ≤ 64 := by
  rw [zGx] at h
  refine ⟨h.1, fun p hp => ?_⟩
  obtain ⟨i, hi, rfl⟩ := List.getElem_of_mem hp
  have := h.2 i hi
  exact ⟨zHh this.1, this.2.2.1⟩
theorem zGy {l : List Int} {x y : Int} (h : risB l x y = true) : l.length ≤ 240 ∧ ∀ n ∈ l, x ≤ n ∧ n ≤ y := by
  rw [risB_iff] at h
  refine ⟨h.1, fun n hn => ?_⟩
  obtain ⟨i, hi, rfl⟩ := List.getElem_of_mem hn
  have := h.2 i hi
  exact ⟨this.1, this.2.1⟩
end Go.Sl
namespace Go.Proofs.YtbogecljkaimdaaGreatDoor
open Go.Sl
set_option maxRecDepth 10000
section
variable {C : zAw} {r : Rec} {pv kv dv : Value} (hR : RecR C r pv kv dv) {As : List zAw} (hC : C ∈ As) (p : Nat) (A : zAw) (hA : WrC 94 p ⟨2048, [], 0⟩ A) (w0 : World) (H : Hp w0 (A :: As))
include hR hC hA H
theorem lay1_ret (h : may1 r = true) : Ret Tryz.prog 50 #[ptr p, .agg (r.cells pv kv dv).toArray] w0 fun _ w' => ∃ A', WrC 94 p ⟨2048, body1 r, 0⟩ A' ∧ Trs w0 w' (A :: As) (A' :: As) := by
  have _ := hC
  have S := St.begin H
  have hn := zJl h
  obtain ⟨ad1, c1, rfl⟩ := hR.pr.slice
  obtain ⟨ad2, c2, rfl⟩ := hR.kr.slice
  obtain ⟨ad3, c3, rfl⟩ := hR.dr.slice
  refine zCl 13 Tryz.func50 rfl rfl (by decide) ?_; intro a E
  refine wp_seq_k ?_; intro K hK
  refine zAb ?_
  refine zAo rfl (zCm E S rfl rfl (by decide) rfl rfl ?_); clear E S a; intro a w b3 E S
  refine wpList_nil ?_
  refine zAf hK ?_; clear hK; clear K
  refine wp_seq_k ?_; intro K hK
  refine zAb ?_
  refine zp E (zAe E rfl rfl) ?_; clear E a; intro a E
  refine zp E (by first | exact zAg (q := 1) E rfl rfl rfl | exact zAh (q := 1) E rfl rfl rfl) ?_; clear E a; intro a E
  refine zp E (by first | exact zAn E rfl rfl rfl (S.get (by repeat (first | exact pk1 | apply zAc))) rfl | exact zAj E rfl rfl rfl (by assumption)) ?_; clear E a; intro a E
  refine zAp E rfl rfl (by decide) rfl Tryz.func51 rfl (by kernel_rfl) rfl (zIl p 2048 [] A _ hA r.name (S.hp.sel (zAl (by repeat (first | exact pk1 | apply zAc)) (zAu _))) (by omega) (by omega) (by simp only [List.length_nil]; omega)) ?_
  rintro v7 w ⟨A1, hA1, hT⟩; clear E a; intro a E
  have S := S.call1 (zAl (by repeat (first | exact pk1 | apply zAc)) (zAu _)) hT
  refine wpList_nil ?_
  refine zAf hK ?_; clear hK; clear K
  refine zAb ?_
  refine zp E (zAe E rfl rfl) ?_; clear E a; intro a E
  refine zp E (by first | exact zAg (q := 10) E rfl rfl rfl | exact zAh (q := 10) E rfl rfl rfl) ?_; clear E a; intro a E
  refine zp E (by first | exact zAn E rfl rfl rfl (S.get (by repeat (first | exact pk1 | apply zAc))) rfl | exact zAj E rfl rfl rfl (by assumption)) ?_; clear E a; intro a E
  refine zp E (zBg E rfl rfl rfl rfl (zKd (by omega) (by omega))) ?_; clear E a; intro a E
  refine zAp E rfl rfl (by decide) rfl Tryz.func30 rfl (by kernel_rfl) rfl (zEp p 2048 _ A1 _ hA1 r.many.toNat 2 (S.hp.sel (zAl (by repeat (first | exact pk1 | apply zAc)) (zAu _))) (by omega) (by omega) (by omega) (by omega) (by simp only [List.length_append, zCr, List.length_nil]; omega)) ?_
  rintro v12 w ⟨A2, hA2, hT⟩; clear E a; intro a E
  have S := S.call1 (zAl (by repeat (first | exact pk1 | apply zAc)) (zAu _)) hT
  refine wpList_nil ?_
  refine end0 E rfl ?_
  exact ⟨_, rfl, A2, by simpa [body1] using hA2, S.perm2.tail.tr⟩
theorem lay3_ret (h : may3 r = true) : Ret Tryz.prog 57 #[ptr p, .agg (r.cells pv kv dv).toArray] w0 fun _ w' => ∃ A', WrC 94 p ⟨2048, body3 r, 0⟩ A' ∧ Trs w0 w' (A :: As) (A' :: As) := by
  have S := St.begin H
  have hn := zGy h
  refine zCl 8 Tryz.func57 rfl rfl (by decide) ?_; intro a E
  refine wp_seq_k ?_; intro K hK
  refine zAb ?_
  refine zAo rfl (zCm E S rfl rfl (by decide) rfl rfl ?_); clear E S a; intro a w b3 E S
  refine wpList_nil ?_
  refine zAf hK ?_; clear hK; clear K
  refine zAb ?_
  refine zp E (zAe E rfl rfl) ?_; clear E a; intro a E
  refine zp E (by first | exact zAg (q := 11) E rfl rfl rfl | exact zAh (q := 11) E rfl rfl rfl) ?_; clear E a; intro a E
  refine zp E (by first | exact zAn E rfl rfl rfl (S.get (by repeat (first | exact pk1 | apply zAc))) rfl | exact zAj E rfl rfl rfl (by assumption)) ?_; clear E a; intro a E
  have S := S.perm2
  refine zAp E rfl rfl (by decide) rfl Tryz.func58 rfl (by kernel_rfl) rfl (zKg hR.kr hn.1 4 0 (by omega) (by omega) (by omega) (fun n hq => by have := hn.2 n hq; omega) p [] A hA (by simp only [List.length_nil]; omega) (List.mem_cons_of_mem _ hC) _ S.hp) ?_
  rintro v7 w ⟨A1, hA1, hT⟩; clear E a; intro a E
  have S := S.all hT
  refine wpList_nil ?_
  refine end0 E rfl ?_
  exact ⟨_, rfl, A1, by simpa [body3] using hA1, S.perm2.tail.tr⟩
theorem lay4_ret (h : may4 r = true) : Ret Tryz.prog 62 #[ptr p, .agg (r.cells pv kv dv).toArray] w0 fun _ w' => ∃ A', WrC 94 p ⟨2048, body4 r, 0⟩ A' ∧ Trs w0 w' (A :: As) (A' :: As) := by
  have S := St.begin H
  simp only [may4, Bool.and_eq_true, decide_eq_true_eq] at h
  have hn := zGy h.2.2
  refine zCl 13 Tryz.func62 rfl rfl (by decide) ?_; intro a E
  refine wp_seq_k ?_; intro K hK
  refine zAb ?_
  refine zAo rfl (zCm E S rfl rfl (by decide) rfl rfl ?_); clear E S a; intro a w b3 E S
  refine wpList_nil ?_
  refine zAf hK ?_; clear hK; clear K
  refine wp_seq_k ?_; intro K hK
  refine zAb ?_
  refine zp E (zAe E rfl rfl) ?_; clear E a; intro a E
  refine zp E (by first | exact zAg (q := 8) E rfl rfl rfl | exact zAh (q := 8) E rfl rfl rfl) ?_; clear E a; intro a E
  refine zp E (by first | exact zAn E rfl rfl rfl (S.get (by repeat (first | exact pk1 | apply zAc))) rfl | exact zAj E rfl rfl rfl (by assumption)) ?_; clear E a; intro a E
  refine zp E (zBg E rfl rfl rfl rfl (zKd (by omega) (by omega))) ?_; clear E a; intro a E
  refine zAp E rfl rfl (by decide) rfl Tryz.func30 rfl (by kernel_rfl) rfl (zEp p 2048 _ A _ hA r.object.toNat 4 (S.hp.sel (zAl (by repeat (first | exact pk1 | apply zAc)) (zAu _))) (by omega) (by omega) (by omega) (by omega) (by simp only [List.length_nil]; omega)) ?_
  rintro v8 w ⟨A1, hA1, hT⟩; clear E a; intro a E
  have S := S.call1 (zAl (by repeat (first | exact pk1 | apply zAc)) (zAu _)) hT
  refine wpList_nil ?_
  refine zAf hK ?_; clear hK; clear K
  refine zAb ?_
  refine zp E (zAe E rfl rfl) ?_; clear E a; intro a E
  refine zp E (by first | exact zAg (q := 11) E rfl rfl rfl | exact zAh (q := 11) E rfl rfl rfl) ?_; clear E a; intro a E
  refine zp E (by first | exact zAn E rfl rfl rfl (S.get (by repeat (first | exact pk1 | apply zAc))) rfl | exact zAj E rfl rfl rfl (by assumption)) ?_; clear E a; intro a E
  refine zAp E rfl rfl (by decide) rfl Tryz.func58 rfl (by kernel_rfl) rfl (zKg hR.kr hn.1 2 1 (by omega) (by omega) (by omega) (fun n hq => by have := hn.2 n hq; omega) p _ A1 hA1 (by simp only [List.length_append, zBc, List.length_nil]; omega) (List.mem_cons_of_mem _ hC) _ S.hp) ?_
  rintro v12 w ⟨A2, hA2, hT⟩; clear E a; intro a E
  have S := S.all hT
  refine wpList_nil ?_
  refine end0 E rfl ?_
  exact ⟨_, rfl, A2, by simpa [body4] using hA2, S.perm2.tail.tr⟩
theorem lay5_ret (h : may5 r = true) : Ret Tryz.prog 65 #[ptr p, .agg (r.cells pv kv dv).toArray] w0 fun _ w' => ∃ A', WrC 94 p ⟨2048, body5 r, 0⟩ A' ∧ Trs w0 w' (A :: As) (A' :: As) := by
  have S := St.begin H
  simp only [may5, Bool.and_eq_true, decide_eq_true_eq] at h
  have hd := hR.dr
  obtain ⟨ad3, c3, rfl⟩ := hd.slice
  obtain ⟨R', hperm⟩ : ∃ R', As.Perm (C :: R') := (by obtain ⟨X, Y, rfl⟩ := List.mem_iff_append.1 hC; exact ⟨X ++ Y, List.perm_middle⟩)
  refine zCl 25 Tryz.func65 rfl rfl (by decide) ?_; intro a E
  refine wp_seq_k ?_; intro K hK
  refine zAb ?_
  refine zAo rfl (zCm E S rfl rfl (by decide) rfl rfl ?_); clear E S a; intro a w b3 E S
  refine wpList_nil ?_
  refine zAf hK ?_; clear hK; clear K
  refine wp_seq_k ?_; intro K hK
  refine zAb ?_
  refine zp E (zAe E rfl rfl) ?_; clear E a; intro a E
  refine zp E (by first | exact zAg (q := 8) E rfl rfl rfl | exact zAh (q := 8) E rfl rfl rfl) ?_; clear E a; intro a E
  refine zp E (by first | exact zAn E rfl rfl rfl (S.get (by repeat (first | exact pk1 | apply zAc))) rfl | exact zAj E rfl rfl rfl (by assumption)) ?_; clear E a; intro a E
  refine zp E (zBg E rfl rfl rfl rfl (zKd (by omega) (by omega))) ?_; clear E a; intro a E
  refine zAp E rfl rfl (by decide) rfl Tryz.func30 rfl (by kernel_rfl) rfl (zEp p 2048 _ A _ hA r.object.toNat 4 (S.hp.sel (zAl (by repeat (first | exact pk1 | apply zAc)) (zAu _))) (by omega) (by omega) (by omega) (by omega) (by simp only [List.length_nil]; omega)) ?_
  rintro v8 w ⟨A1, hA1, hT⟩; clear E a; intro a E
  have S := S.call1 (zAl (by repeat (first | exact pk1 | apply zAc)) (zAu _)) hT
  refine wpList_nil ?_
  refine zAf hK ?_; clear hK; clear K
  refine wp_seq_k ?_; intro K hK
  refine zAb ?_
  refine zp E (zAe E rfl rfl) ?_; clear E a; intro a E
  refine zp E (by first | exact zAg (q := 9) E rfl rfl rfl | exact zAh (q := 9) E rfl rfl rfl) ?_; clear E a; intro a E
  refine zp E (by first | exact zAn E rfl rfl rfl (S.get (by repeat (first | exact pk1 | apply zAc))) rfl | exact zAj E rfl rfl rfl (by assumption)) ?_; clear E a; intro a E
  refine zp E (zBt E rfl rfl rfl (w_in (by omega))) ?_; clear E a; intro a E
  refine zp E (zBg E rfl rfl rfl rfl (zKd (by omega) (by omega))) ?_; clear E a; intro a E
  refine zAp E rfl rfl (by decide) rfl Tryz.func30 rfl (by kernel_rfl) rfl (zEp p 2048 _ A1 _ hA1 (r.at_ + 1).toNat 2 (S.hp.sel (zAl (by repeat (first | exact pk1 | apply zAc)) (zAu _))) (by omega) (by omega) (by omega) (by omega) (by simp only [List.length_append, zBc, List.length_nil]; omega)) ?_
  rintro v14 w ⟨A2, hA2, hT⟩; clear E a; intro a E
  have S := S.call1 (zAl (by repeat (first | exact pk1 | apply zAc)) (zAu _)) hT
  refine wpList_nil ?_
  refine zAf hK ?_; clear hK; clear K
  refine wp_seq_k ?_; intro K hK
  refine zAb ?_
  refine zp E (zAe E rfl rfl) ?_; clear E a; intro a E
  refine zp E (by first | exact zAg (q := 12) E rfl rfl rfl | exact zAh (q := 12) E rfl rfl rfl) ?_; clear E a; intro a E
  refine zp E (by first | exact zAn E rfl rfl rfl (S.get (by repeat (first | exact pk1 | apply zAc))) rfl | exact zAj E rfl rfl rfl (by assumption)) ?_; clear E a; intro a E
  refine zp E (by first | exact zBu E rfl rfl rfl | exact zAx E rfl rfl rfl | exact zAq E rfl rfl rfl) ?_; clear E a; intro a E
  refine zp E (by first | exact zBg E rfl rfl rfl rfl (by first | exact wu8 _ | exact zFe (by omega) | exact zDz (by omega) | exact w_in (by omega) | exact zBw (by omega) | exact rfl) | exact zCi E rfl rfl rfl rfl rfl (by assumption) (S.stab.at (by simp))) ?_; clear E a; intro a E
  refine zAp E rfl rfl (by decide) rfl Tryz.func30 rfl (by kernel_rfl) rfl (zEp p 2048 _ A2 _ hA2 r.data.length 2 (S.hp.sel (zAl (by repeat (first | exact pk1 | apply zAc)) (zAu _))) (by omega) (by omega) (by omega) (by omega) (by simp only [List.length_append, zBc, List.length_nil]; omega)) ?_
  rintro v20 w ⟨A3, hA3, hT⟩; clear E a; intro a E
  have S := S.call1 (zAl (by repeat (first | exact pk1 | apply zAc)) (zAu _)) hT
  refine wpList_nil ?_
  refine zAf hK ?_; clear hK; clear K
  refine zAb ?_
  refine zp E (zAe E rfl rfl) ?_; clear E a; intro a E
  refine zp E (by first | exact zAg (q := 12) E rfl rfl rfl | exact zAh (q := 12) E rfl rfl rfl) ?_; clear E a; intro a E
  refine zp E (by first | exact zAn E rfl rfl rfl (S.get (by repeat (first | exact pk1 | apply zAc))) rfl | exact zAj E rfl rfl rfl (by assumption)) ?_; clear E a; intro a E
  refine zAp E rfl rfl (by decide) rfl Tryz.func66 rfl (by kernel_rfl) rfl (bytes_fit p 2048 _ A3 C _ hA3 _ r.data hd (S.hp.sel (zAl (by repeat (first | exact pk1 | apply zAc)) (zAl (zAc hperm) (zAu _)))) (by omega) (by simp only [List.length_append, zBc, List.length_nil]; omega)) ?_
  rintro v24 w ⟨A4, hA4, hT⟩; clear E a; intro a E
  have S := S.call2 (zAl (by repeat (first | exact pk1 | apply zAc)) (zAl (zAc hperm) (zAu _))) hT
  refine wpList_nil ?_
  refine end0 E rfl ?_
  exact ⟨_, rfl, A4, by simpa [body5] using hA4, (((S.front1 (A := [(b3, _)]) (by repeat (first | exact pk1 | apply zAc))).tail).perm (hperm.symm.cons _)).tr⟩
theorem lay6_ret (h : may6 r = true) : Ret Tryz.prog 100 #[ptr p, .agg (r.cells pv kv dv).toArray] w0 fun _ w' => ∃ A', WrC 94 p ⟨2048, body6 r, 0⟩ A' ∧ Trs w0 w' (A :: As) (A' :: As) := by
  have _ := hR
  have _ := hC
  have S := St.begin H
  simp only [may6, decide_eq_true_eq] at h
  refine zCl 9 Tryz.func100 rfl rfl (by decide) ?_; intro a E
  refine wp_seq_k ?_; intro K hK
  refine zAb ?_
  refine zAo rfl (zCm E S rfl rfl (by decide) rfl rfl ?_); clear E S a; intro a w b3 E S
  refine wpList_nil ?_
  refine zAf hK ?_; clear hK; clear K
  refine zAb ?_
  refine zp E (zAe E rfl rfl) ?_; clear E a; intro a E
  refine zp E (by first | exact zAg (q := 10) E rfl rfl rfl | exact zAh (q := 10) E rfl rfl rfl) ?_; clear E a; intro a E
  refine zp E (by first | exact zAn E rfl rfl rfl (S.get (by repeat (first | exact pk1 | apply zAc))) rfl | exact zAj E rfl rfl rfl (by assumption)) ?_; clear E a; intro a E
  refine zp E (zBg E rfl rfl rfl rfl (zKd (by omega) (by omega))) ?_; clear E a; intro a E
  refine zAp E rfl rfl (by decide) rfl Tryz.func30 rfl (by kernel_rfl) rfl (zEp p 2048 _ A _ hA r.many.toNat 4 (S.hp.sel (zAl (by repeat (first | exact pk1 | apply zAc)) (zAu _))) (by omega) (by omega) (by omega) (by omega) (by simp only [List.length_nil]; omega)) ?_
  rintro v8 w ⟨A1, hA1, hT⟩; clear E a; intro a E
  have S := S.call1 (zAl (by repeat (first | exact pk1 | apply zAc)) (zAu _)) hT
  refine wpList_nil ?_
  refine end0 E rfl ?_
  exact ⟨_, rfl, A1, by simpa [body6] using hA1, S.perm2.tail.tr⟩
end
end Go.Proofs.YtbogecljkaimdaaGreatDoor
namespace Go.Proofs.YtbogecljkaimdaaGreatDoor
open Go.Sl
set_option maxRecDepth 10000
section
variable {C : zAw} {r : Rec} {pv kv dv : Value} (hR : RecR C r pv kv dv) {As : List zAw} (hC : C ∈ As) (p : Nat) (A : zAw) (hA : WrC 94 p ⟨2048, [], 0⟩ A) (w0 : World) (H : Hp w0 (A :: As))
include hR hC hA H
theorem lay2_ret (h : begB r = true) : Ret Tryz.prog 94 #[ptr p, .agg (r.cells pv kv dv).toArray] w0 fun _ w' => ∃ A', WrC 94 p ⟨2048, body2 r, 0⟩ A' ∧ Trs w0 w' (A :: As) (A' :: As) := by
  have S := St.begin H
  obtain ⟨q1, q2, q3, q4, q5, q6, q7⟩ := (zDw r).1 h
  have h1 := beh_len q1
  have h2 := zHh q6
  have h3 := zJm q7
  have hP := hR.pr
  obtain ⟨adp, cp, rfl⟩ := hP.slice
  refine zCl 56 Tryz.func94 rfl rfl (by decide) ?_; intro a E
  refine wp_seq_k ?_; intro K hK
  refine zAb ?_
  refine zAo rfl (zCm E S rfl rfl (by decide) rfl rfl ?_); clear E S a; intro a w b3 E S
  refine wpList_nil ?_
  refine zAf hK ?_; clear hK; clear K
  refine wp_seq_k ?_; intro K hK
  refine zAb ?_
  refine zp E (zAe E rfl rfl) ?_; clear E a; intro a E
  refine zp E (by first | exact zAg (q := 1) E rfl rfl rfl | exact zAh (q := 1) E rfl rfl rfl) ?_; clear E a; intro a E
  refine zp E (by first | exact zAn E rfl rfl rfl (S.get (by repeat (first | exact pk1 | apply zAc))) rfl | exact zAj E rfl rfl rfl (by assumption)) ?_; clear E a; intro a E
  refine zAp E rfl rfl (by decide) rfl Tryz.func51 rfl (by kernel_rfl) rfl (zIl p 2048 [] A _ hA r.name (S.hp.sel (zAl (by repeat (first | exact pk1 | apply zAc)) (zAu _))) (by omega) (by omega) (by simp only [List.length_nil]; omega)) ?_
  rintro v9 w ⟨A1, hA1, hT⟩; clear E a; intro a E
  replace S := S.call1 (zAl (by repeat (first | exact pk1 | apply zAc)) (zAu _)) hT
  refine wpList_nil ?_
  refine zAf hK ?_; clear hK; clear K
  refine wp_seq_k ?_; intro K hK
  refine zAb ?_
  refine zp E (zAe E rfl rfl) ?_; clear E a; intro a E
  refine zp E (by first | exact zAg (q := 2) E rfl rfl rfl | exact zAh (q := 2) E rfl rfl rfl) ?_; clear E a; intro a E
  refine zp E (by first | exact zAn E rfl rfl rfl (S.get (by repeat (first | exact pk1 | apply zAc))) rfl | exact zAj E rfl rfl rfl (by assumption)) ?_; clear E a; intro a E
  refine zp E (zBg E rfl rfl rfl rfl (zKd (by omega) (by omega))) ?_; clear E a; intro a E
  refine zAp E rfl rfl (by decide) rfl Tryz.func30 rfl (by kernel_rfl) rfl (zEp p 2048 _ A1 _ hA1 r.typ.toNat 1 (S.hp.sel (zAl (by repeat (first | exact pk1 | apply zAc)) (zAu _))) (by omega) (by omega) (by omega) (by omega) (by simp only [List.length_append, zCr, zBc, List.length_nil]; omega)) ?_
  rintro v14 w ⟨A2, hA2, hT⟩; clear E a; intro a E
  replace S := S.call1 (zAl (by repeat (first | exact pk1 | apply zAc)) (zAu _)) hT
  refine wpList_nil ?_
  refine zAf hK ?_; clear hK; clear K
  refine wp_seq_k ?_; intro K hK
  refine zAb ?_
  refine zp E (zAe E rfl rfl) ?_; clear E a; intro a E
  refine zp E (by first | exact zAg (q := 3) E rfl rfl rfl | exact zAh (q := 3) E rfl rfl rfl) ?_; clear E a; intro a E
  refine zp E (by first | exact zAn E rfl rfl rfl (S.get (by repeat (first | exact pk1 | apply zAc))) rfl | exact zAj E rfl rfl rfl (by assumption)) ?_; clear E a; intro a E
  refine zp E (zBg E rfl rfl rfl rfl (zKd (by omega) (by omega))) ?_; clear E a; intro a E
  refine zAp E rfl rfl (by decide) rfl Tryz.func30 rfl (by kernel_rfl) rfl (zEp p 2048 _ A2 _ hA2 r.frm.toNat 6 (S.hp.sel (zAl (by repeat (first | exact pk1 | apply zAc)) (zAu _))) (by omega) (by omega) (by omega) (by omega) (by simp only [List.length_append, zCr, zBc, List.length_nil]; omega)) ?_
  rintro v19 w ⟨A3, hA3, hT⟩; clear E a; intro a E
  replace S := S.call1 (zAl (by repeat (first | exact pk1 | apply zAc)) (zAu _)) hT
  refine wpList_nil ?_
  refine zAf hK ?_; clear hK; clear K
  refine wp_seq_k ?_; intro K hK
  refine zAb ?_
  refine zp E (zAe E rfl rfl) ?_; clear E a; intro a E
  refine zp E (by first | exact zAg (q := 4) E rfl rfl rfl | exact zAh (q := 4) E rfl rfl rfl) ?_; clear E a; intro a E
  refine zp E (by first | exact zAn E rfl rfl rfl (S.get (by repeat (first | exact pk1 | apply zAc))) rfl | exact zAj E rfl rfl rfl (by assumption)) ?_; clear E a; intro a E
  refine zp E (zBg E rfl rfl rfl rfl (zKd (by omega) (by omega))) ?_; clear E a; intro a E
  refine zAp E rfl rfl (by decide) rfl Tryz.func30 rfl (by kernel_rfl) rfl (zEp p 2048 _ A3 _ hA3 r.guid.toNat 6 (S.hp.sel (zAl (by repeat (first | exact pk1 | apply zAc)) (zAu _))) (by omega) (by omega) (by omega) (by omega) (by simp only [List.length_append, zCr, zBc, List.length_nil]; omega)) ?_
  rintro v24 w ⟨A4, hA4, hT⟩; clear E a; intro a E
  replace S := S.call1 (zAl (by repeat (first | exact pk1 | apply zAc)) (zAu _)) hT
  refine wpList_nil ?_
  refine zAf hK ?_; clear hK; clear K
  refine wp_seq_k ?_; intro K hK
  refine zAb ?_
  refine zp E (zAe E rfl rfl) ?_; clear E a; intro a E
  refine zp E (by first | exact zAg (q := 5) E rfl rfl rfl | exact zAh (q := 5) E rfl rfl rfl) ?_; clear E a; intro a E
  refine zp E (by first | exact zAn E rfl rfl rfl (S.get (by repeat (first | exact pk1 | apply zAc))) rfl | exact zAj E rfl rfl rfl (by assumption)) ?_; clear E a; intro a E
  refine zp E (zBg E rfl rfl rfl rfl (zKd (by omega) (by omega))) ?_; clear E a; intro a E
  refine zAp E rfl rfl (by decide) rfl Tryz.func30 rfl (by kernel_rfl) rfl (zEp p 2048 _ A4 _ hA4 r.origin.toNat 1 (S.hp.sel (zAl (by repeat (first | exact pk1 | apply zAc)) (zAu _))) (by omega) (by omega) (by omega) (by omega) (by simp only [List.length_append, zCr, zBc, List.length_nil]; omega)) ?_
  rintro v29 w ⟨A5, hA5, hT⟩; clear E a; intro a E
  replace S := S.call1 (zAl (by repeat (first | exact pk1 | apply zAc)) (zAu _)) hT
  refine wpList_nil ?_
  refine zAf hK ?_; clear hK; clear K
  refine wp_seq_k ?_; intro K hK
  replace E := E.keep (e' := [(0, _), (3, _)]) (zAa rfl (zAa rfl (zAm)))
  refine zAb ?_
  refine zp E (zAe E rfl rfl) ?_; clear E a; intro a E
  refine zp E (by first | exact zAg (q := 6) E rfl rfl rfl | exact zAh (q := 6) E rfl rfl rfl) ?_; clear E a; intro a E
  refine zp E (by first | exact zAn E rfl rfl rfl (S.get (by repeat (first | exact pk1 | apply zAc))) rfl | exact zAj E rfl rfl rfl (by assumption)) ?_; clear E a; intro a E
  refine zAp E rfl rfl (by decide) rfl Tryz.func51 rfl (by kernel_rfl) rfl (zIl p 2048 _ A5 _ hA5 r.snap (S.hp.sel (zAl (by repeat (first | exact pk1 | apply zAc)) (zAu _))) (by omega) (by omega) (by simp only [List.length_append, zCr, zBc, List.length_nil]; omega)) ?_
  rintro v33 w ⟨A6, hA6, hT⟩; clear E a; intro a E
  replace S := S.call1 (zAl (by repeat (first | exact pk1 | apply zAc)) (zAu _)) hT
  refine wpList_nil ?_
  refine zAf hK ?_; clear hK; clear K
  refine wp_seq_k ?_; intro K hK
  refine zAb ?_
  refine zp E (zAe E rfl rfl) ?_; clear E a; intro a E
  refine zp E (by first | exact zAg (q := 7) E rfl rfl rfl | exact zAh (q := 7) E rfl rfl rfl) ?_; clear E a; intro a E
  refine zp E (by first | exact zAn E rfl rfl rfl (S.get (by repeat (first | exact pk1 | apply zAc))) rfl | exact zAj E rfl rfl rfl (by assumption)) ?_; clear E a; intro a E
  refine zp E (by first | exact zBu E rfl rfl rfl | exact zAx E rfl rfl rfl | exact zAq E rfl rfl rfl) ?_; clear E a; intro a E
  refine zp E (by first | exact zBg E rfl rfl rfl rfl (by first | exact wu8 _ | exact zFe (by omega) | exact zDz (by omega) | exact w_in (by omega) | exact zBw (by omega) | exact rfl) | exact zCi E rfl rfl rfl rfl rfl (by assumption) (S.stab.at (by simp))) ?_; clear E a; intro a E
  refine zAp E rfl rfl (by decide) rfl Tryz.func30 rfl (by kernel_rfl) rfl (zEp p 2048 _ A6 _ hA6 r.props.length 1 (S.hp.sel (zAl (by repeat (first | exact pk1 | apply zAc)) (zAu _))) (by omega) (by omega) (by omega) (by omega) (by simp only [List.length_append, zCr, zBc, List.length_nil]; omega)) ?_
  rintro v39 w ⟨A7, hA7, hT⟩; clear E a; intro a E
  replace S := S.call1 (zAl (by repeat (first | exact pk1 | apply zAc)) (zAu _)) hT
  refine wpList_nil ?_
  refine zAf hK ?_; clear hK; clear K
  refine wp_seq_k ?_; intro K hK
  obtain ⟨pre, hpre⟩ : ∃ pre, pre = txt r.name ++ (zBv r.typ.toNat 1 ++ (zBv r.frm.toNat 6 ++ (zBv r.guid.toNat 6 ++ (zBv r.origin.toNat 1 ++ (txt r.snap ++ zBv r.props.length 1))))) := ⟨_, rfl⟩
  have hpl : pre.length ≤ 300 := by rw [hpre]; simp only [List.length_append, zCr, zBc]; omega
  have hA8 : WrC 94 p ⟨2048, pre ++ zEs (r.props.take 0), 0⟩ A7 := by rw [hpre]; simpa [zEs] using hA7
  refine zAb ?_
  refine zp E (by first | exact zAg (q := 7) E rfl rfl rfl | exact zAh (q := 7) E rfl rfl rfl) ?_; clear E a; intro a E
  refine zp E (by first | exact zAn E rfl rfl rfl (S.get (by repeat (first | exact pk1 | apply zAc))) rfl | exact zAj E rfl rfl rfl (by assumption)) ?_; clear E a; intro a E
  refine zp E (by first | exact zBu E rfl rfl rfl | exact zAx E rfl rfl rfl | exact zAq E rfl rfl rfl) ?_; clear E a; intro a E
  refine zp E (zAe E rfl rfl) ?_; clear E a; intro a E
  refine wpList_nil ?_
  refine zAf hK ?_; clear hK; clear K
  refine wp_block ?_
  refine wp_loop_ghost (fun (m : Nat) (a : Act) (w' : World) => ∃ (i : Nat) (A' : zAw), m = r.props.length - i ∧ i ≤ r.props.length ∧ WrC 94 p ⟨2048, pre ++ zEs (r.props.take i), 0⟩ A' ∧ St w0 (A :: As) w' (A' :: As) ∧ Fr a 56 [(0, ptr p), (41, .slice adp r.props.length cp), (42, .int .i64 r.props.length), (43, .int .i64 i)]) (r.props.length) ?_ ?_
  · exact ⟨0, A7, by omega, by omega, hA8, S.perm2.tail, E.keep (zAa rfl (zAa rfl (zAa rfl (zAa rfl zAm))))⟩
  clear E; clear a; (try clear S); rintro m a w ⟨i, A', rfl, hi, hA', S, E⟩
  refine wp_seq_k ?_; intro K hK
  refine zAb ?_
  refine zp E (zCk E rfl rfl rfl) ?_; clear E a; intro a E
  refine wpList_nil ?_
  refine zAf hK ?_; clear hK; clear K
  refine wp_seq_k ?_; intro K hK
  refine zBh E rfl (fun hb => ?_) (fun hb => ?_)
  · replace hb := Nrm.nrm hb
    refine wp_skip ?_
    refine zAf hK ?_; clear hK; clear K
    refine wp_seq_k ?_; intro K hK
    refine wp_block ?_
    refine wp_seq_k ?_; intro K hK
    have hil : i < r.props.length := by omega
    obtain ⟨b, off, rfl⟩ := hP.addr (by omega)
    have hsi := h3.2 _ (List.getElem_mem hil)
    have hpi := zKf (l := r.props.take i) (fun q hq => h3.2 q (List.mem_of_mem_take hq))
    rw [List.length_take, Nat.min_eq_left hi] at hpi
    refine zAb ?_
    refine zp E (by first | exact zBo E rfl rfl rfl rfl rfl rfl (by omega) | exact zBq E rfl rfl rfl rfl rfl rfl (by omega) | exact zBd E rfl rfl rfl rfl rfl rfl (by omega)) ?_; clear E a; intro a E
    refine zp E (zEh (vs := [_, _]) E rfl rfl rfl rfl (hP.elem (lay := Prp.lay) Prp.lay_len (S.stab.at (List.mem_cons_of_mem _ hC)) hil)) ?_; clear E a; intro a E
    refine zAo rfl (zBy E S rfl rfl (by decide) rfl rfl rfl ?_); clear E S a; intro a w b5 E S
    refine zAo rfl (zBk E S rfl rfl rfl rfl (by simp [Value.oneCell']) rfl (by repeat (first | exact pk1 | apply zAc)) (by simp) ?_); clear E S a; intro a w E S; simp only [List.take_succ_cons, List.take_zero, List.drop_succ_cons, List.drop_zero, List.cons_append, List.nil_append, List.append_nil, List.length_cons, List.length_nil, Nat.zero_add, Nat.add_zero] at S
    refine wpList_nil ?_
    refine zAf hK ?_; clear hK; clear K
    refine wp_seq_k ?_; intro K hK
    obtain ⟨q, hq⟩ : ∃ q, q = r.props[i] := ⟨_, rfl⟩
    rw [← hq] at S hsi
    refine zAb ?_
    refine zp E (zAe E rfl rfl) ?_; clear E a; intro a E
    refine zp E (by first | exact zAg (q := 0) E rfl rfl rfl | exact zAh (q := 0) E rfl rfl rfl) ?_; clear E a; intro a E
    refine zp E (by first | exact zAn E rfl rfl rfl (S.get (by repeat (first | exact pk1 | apply zAc))) rfl | exact zAj E rfl rfl rfl (by assumption)) ?_; clear E a; intro a E
    refine zAp E rfl rfl (by decide) rfl Tryz.func51 rfl (by kernel_rfl) rfl (zIl p 2048 _ A' _ hA' q.name (S.hp.sel (zAl (by repeat (first | exact pk1 | apply zAc)) (zAu _))) (by omega) (by omega) (by simp only [List.length_append]; omega)) ?_
    rintro v50 w ⟨B1, hB1, hT⟩; clear E a; intro a E
    replace S := S.call1 (zAl (by repeat (first | exact pk1 | apply zAc)) (zAu _)) hT
    refine wpList_nil ?_
    refine zAf hK ?_; clear hK; clear K
    refine zAb ?_
    refine zp E (zAe E rfl rfl) ?_; clear E a; intro a E
    refine zp E (by first | exact zAg (q := 1) E rfl rfl rfl | exact zAh (q := 1) E rfl rfl rfl) ?_; clear E a; intro a E
    refine zp E (by first | exact zAn E rfl rfl rfl (S.get (by repeat (first | exact pk1 | apply zAc))) rfl | exact zAj E rfl rfl rfl (by assumption)) ?_; clear E a; intro a E
    refine zAp E rfl rfl (by decide) rfl Tryz.func51 rfl (by kernel_rfl) rfl (zIl p 2048 _ B1 _ hB1 q.value (S.hp.sel (zAl (by repeat (first | exact pk1 | apply zAc)) (zAu _))) (by omega) (by omega) (by simp only [List.length_append, zCr]; omega)) ?_
    rintro v54 w ⟨B2, hB2, hT⟩; clear E a; intro a E
    replace S := S.call1 (zAl (by repeat (first | exact pk1 | apply zAc)) (zAu _)) hT
    refine wpList_nil ?_
    refine zBe ?_
    refine zAf hK ?_; clear hK; clear K
    refine zAb ?_
    refine zp E (zBt E rfl rfl rfl (by first | exact zCh (y := 1) (by omega) | exact w_in (by omega) | exact zBw (by omega) | exact rfl)) ?_; clear E a; intro a E
    refine zp E (zAe E rfl rfl) ?_; clear E a; intro a E
    refine wpList_nil ?_
    refine zBj ?_
    exact ⟨_, by omega, i + 1, B2, rfl, by omega, by rw [zKe hil, ← hq]; simpa using hB2, S.perm2.tail, E.keep (zAa rfl (zAa rfl (zAa rfl (zAa rfl zAm))))⟩
  · replace hb := Nrm.nrm hb
    refine wp_exit ?_
    refine zBa ?_; clear hK; clear K
    refine zBa ?_
    refine zCg ?_
    refine end0 E rfl ?_
    obtain rfl : i = r.props.length := by omega
    rw [List.take_length] at hA'
    exact ⟨_, rfl, A', by rw [hpre] at hA'; simpa [body2] using hA', S.tr⟩
omit hR hC hA H in
theorem layF_fn {k : Int} (h : inK k) : ∃ fn : Func, Tryz.prog.funcs[layF k]? = some fn ∧ fn.body.isSome = true ∧ (fn.name == "runtime.NumGoroutine") = false := by
  rcases zEt h with rfl | rfl | rfl | rfl | rfl | rfl | rfl
  · exact ⟨_, Tryz.func50, rfl, by kernel_rfl⟩
  · exact ⟨_, Tryz.func94, rfl, by kernel_rfl⟩
  · exact ⟨_, Tryz.func57, rfl, by kernel_rfl⟩
  · exact ⟨_, Tryz.func62, rfl, by kernel_rfl⟩
  · exact ⟨_, Tryz.func65, rfl, by kernel_rfl⟩
  · exact ⟨_, Tryz.func100, rfl, by kernel_rfl⟩
  · exact ⟨_, Tryz.func100, rfl, by kernel_rfl⟩
theorem layK_ret {k : Int} (hk : inK k) (h : mayK k r = true) : Ret Tryz.prog (layF k) #[ptr p, .agg (r.cells pv kv dv).toArray] w0 fun _ w' => ∃ A', WrC 94 p ⟨2048, zEl k r, 0⟩ A' ∧ Trs w0 w' (A :: As) (A' :: As) := by
  rcases zEt hk with rfl | rfl | rfl | rfl | rfl | rfl | rfl
  · exact lay1_ret hR hC p A hA w0 H h
  · exact lay2_ret hR hC p A hA w0 H h
  · exact lay3_ret hR hC p A hA w0 H h
  · exact lay4_ret hR hC p A hA w0 H h
  · exact lay5_ret hR hC p A hA w0 H h
  · exact lay6_ret hR hC p A hA w0 H h
  · exact lay6_ret hR hC p A hA w0 H h
end
end Go.Proofs.YtbogecljkaimdaaGreatDoor
namespace Go.Sl
structure Pt where
  top : Int
  at_ : Int
  bytes : Int
  birth : Nat
  kind : Int
  a : Nat
  b : Nat
  c : Nat
  d : Nat
deriving DecidableEq
def Pt.lay (p : Pt) : List Value := [.int .i64 p.top, .int .i64 p.at_, .int .i64 p.bytes, .int .u64 p.birth, .int .i64 p.kind, .int .u64 p.a, .int .u64 p.b, .int .u64 p.c, .int .u64 p.d]
abbrev Pt.agg (p : Pt) : Value := .agg #[.int .i64 p.top, .int .i64 p.at_, .int .i64 p.bytes, .int .u64 p.birth, .int .i64 p.kind, .int .u64 p.a, .int .u64 p.b, .int .u64 p.c, .int .u64 p.d]
theorem Pt.lay_len (p : Pt) : p.lay.length = 9 := rfl
structure Pt.Ok (p : Pt) : Prop where
  top : -9223372036854775808 ≤ p.top ∧ p.top ≤ 9223372036854775807
  at_ : -9223372036854775808 ≤ p.at_ ∧ p.at_ ≤ 9223372036854775807
  bytes : -9223372036854775808 ≤ p.bytes ∧ p.bytes ≤ 9223372036854775807
  birth : p.birth < 18446744073709551616
  kind : -9223372036854775808 ≤ p.kind ∧ p.kind ≤ 9223372036854775807
  a : p.a < 18446744073709551616
  b : p.b < 18446744073709551616
  c : p.c < 18446744073709551616
  d : p.d < 18446744073709551616
def Pt.good (p : Pt) : Prop := 0 ≤ p.top ∧ p.top < 4 ∧ 0 ≤ p.at_ ∧ p.at_ ≤ 40959 ∧ 1 ≤ p.bytes ∧ p.bytes ≤ 1024 ∧ 1 ≤ p.birth ∧ p.birth ≤ 281474976710656 ∧ (p.kind = 1 ∨ p.kind = 2)
instance (p : Pt) : Decidable p.good := by unfold Pt.good; infer_instance
abbrev nm (b : List UInt8) (q k : Nat) : Nat := zDf ((b.drop q).take k)
theorem p1 : (256 : Nat) ^ 1 = 256 := by decide
theorem p2 : (256 : Nat) ^ 2 = 65536 := by decide
theorem p4 : (256 : Nat) ^ 4 = 4294967296 := by decide
end Go.Sl
namespace Go.Sl
structure Fs where
  a : Nat
  b : Nat
  c : Nat
  d : Nat
deriving DecidableEq
def Fs.lay (s : Fs) : List Value := [.int .u64 s.a, .int .u64 s.b, .int .u64 s.c, .int .u64 s.d]
abbrev Fs.agg (s : Fs) : Value := .agg #[.int .u64 s.a, .int .u64 s.b, .int .u64 s.c, .int .u64 s.d]
def zGd : Fs := ⟨0, 0, 0, 0⟩
def m64 : Nat := 18446744073709551616
def fstep (s : Fs) (w : Nat) : Fs :=
  let a := (s.a + w) % m64
  let b := (s.b + a) % m64
  let c := (s.c + b) % m64
  ⟨a, b, c, (s.d + c) % m64⟩
structure Fs.Ok (s : Fs) : Prop where
  a : s.a < 18446744073709551616
  b : s.b < 18446744073709551616
  c : s.c < 18446744073709551616
  d : s.d < 18446744073709551616
theorem fstep_ok (s : Fs) (w : Nat) : (fstep s w).Ok := ⟨Nat.mod_lt _ (by decide), Nat.mod_lt _ (by decide), Nat.mod_lt _ (by decide), Nat.mod_lt _ (by decide)⟩
def fsN (b : List UInt8) : Nat → Fs
  | 0 => zGd
  | i + 1 => fstep (fsN b i) (nm b (4 * i) 4)
def fletch (b : List UInt8) : Fs := fsN b ((b.length + 3) / 4)
theorem fsN_ok (b : List UInt8) : ∀ i, (fsN b i).Ok
  | 0 => by constructor <;> (show 0 < _; decide)
  | i + 1 => fstep_ok _ _
end Go.Sl
namespace Go.Sl
abbrev gb (b : List UInt8) (j : Nat) : UInt8 := b.getD j 0
theorem nm_four (b : List UInt8) (q : Nat) : nm b q 4 = (gb b q).toNat + (gb b (q + 1)).toNat * 2 ^ 8 + (gb b (q + 2)).toNat * 2 ^ 16 + (gb b (q + 3)).toNat * 2 ^ 24 := by
  have key : ∀ c : List UInt8, zDf (c.take 4) = (c.getD 0 0).toNat + (c.getD 1 0).toNat * 2 ^ 8 + (c.getD 2 0).toNat * 2 ^ 16 + (c.getD 3 0).toNat * 2 ^ 24 := by
    intro c
    match c with
    | [] => rfl
    | [x] => simp [zDf]
    | [x, y] => simp [zDf]; omega
    | [x, y, z] => simp [zDf]; omega
    | x :: y :: z :: t :: r => simp [zDf]; omega
  have g : ∀ j, (b.drop q).getD j 0 = gb b (q + j) := fun j => by simp [gb, List.getD, List.getElem?_drop]
  unfold nm
  rw [key, g, g, g, g, Nat.add_zero]
theorem gb_in (b : List UInt8) {j : Nat} (h : j < b.length) : gb b j = b[j] := by simp [gb, List.getD, h]
theorem gb_out (b : List UInt8) {j : Nat} (h : b.length ≤ j) : gb b j = 0 := by simp [gb, List.getD, List.getElem?_eq_none h]
structure Run (b : List UInt8) (i : Nat) (s : Fs) (x0 x1 x2 x3 : UInt8) (k : Nat) : Prop where
  le : i ≤ b.length
  hk : k = i % 4
  hs : s = fsN b (i / 4)
  h0 : x0 = if 0 < k then gb b (4 * (i / 4)) else 0
  h1 : x1 = if 1 < k then gb b (4 * (i / 4) + 1) else 0
  h2 : x2 = if 2 < k then gb b (4 * (i / 4) + 2) else 0
  h3 : x3 = 0
theorem Run.ok {b : List UInt8} {i : Nat} {s : Fs} {x0 x1 x2 x3 : UInt8} {k : Nat} (h : Run b i s x0 x1 x2 x3 k) : s.Ok := by rw [h.hs]; exact fsN_ok _ _
def word4 (x0 x1 x2 x3 : UInt8) : Nat := x0.toNat + x1.toNat * 2 ^ 8 + x2.toNat * 2 ^ 16 + x3.toNat * 2 ^ 24
theorem Run.s0 {b : List UInt8} {i : Nat} {s : Fs} {x0 x1 x2 x3 : UInt8} (h : Run b i s x0 x1 x2 x3 0) (hi : i < b.length) : Run b (i + 1) s b[i] x1 x2 x3 1 := by
  obtain ⟨h1, h2, h3, h4, h5, h6, h7⟩ := h
  have e : (i + 1) / 4 = i / 4 := by omega
  exact ⟨by omega, by omega, by rw [e, h3], by rw [if_pos (by omega), e, show 4 * (i / 4) = i by omega, gb_in b hi], by rw [h5]; simp, by rw [h6]; simp, h7⟩
theorem Run.s1 {b : List UInt8} {i : Nat} {s : Fs} {x0 x1 x2 x3 : UInt8} (h : Run b i s x0 x1 x2 x3 1) (hi : i < b.length) : Run b (i + 1) s x0 b[i] x2 x3 2 := by
  obtain ⟨h1, h2, h3, h4, h5, h6, h7⟩ := h
  have e : (i + 1) / 4 = i / 4 := by omega
  exact ⟨by omega, by omega, by rw [e, h3], by rw [h4, e]; simp, by rw [if_pos (by omega), e, show 4 * (i / 4) + 1 = i by omega, gb_in b hi], by rw [h6]; simp, h7⟩
theorem Run.s2 {b : List UInt8} {i : Nat} {s : Fs} {x0 x1 x2 x3 : UInt8} (h : Run b i s x0 x1 x2 x3 2) (hi : i < b.length) : Run b (i + 1) s x0 x1 b[i] x3 3 := by
  obtain ⟨h1, h2, h3, h4, h5, h6, h7⟩ := h
  have e : (i + 1) / 4 = i / 4 := by omega
  exact ⟨by omega, by omega, by rw [e, h3], by rw [h4, e]; simp, by rw [h5, e]; simp, by rw [if_pos (by omega), e, show 4 * (i / 4) + 2 = i by omega, gb_in b hi], h7⟩
theorem Run.done {b : List UInt8} {s : Fs} {x0 x1 x2 x3 : UInt8} {k : Nat} (h : Run b b.length s x0 x1 x2 x3 k) (hk : k ≠ 0) : fstep s (word4 x0 x1 x2 x3) = fletch b := by
  obtain ⟨h1, h2, h3, h4, h5, h6, h7⟩ := h
  have e : (b.length + 3) / 4 = b.length / 4 + 1 := by omega
  have o : ∀ j, (if j < k then gb b (4 * (b.length / 4) + j) else 0) = gb b (4 * (b.length / 4) + j) := fun j => by
    split
    · rfl
    · rw [gb_out b (by omega)]
  have o0 := o 0; have o1 := o 1; have o2 := o 2; have o3 := o 3
  rw [Nat.add_zero] at o0
  rw [fletch, e, fsN, h3, nm_four, word4, h4, h5, h6, h7, o0, o1, o2, ← o3, if_neg (by omega)]
end Go.Sl
namespace Go.Sl
def w32 (z : Int) : Int := IntKind.u32.wrap z
def or32 (a b : Int) : Int := bits .or .u32 a b
def xo32 (a b : Int) : Int := bits .xor .u32 a b
def an32 (a b : Int) : Int := bits .and .u32 a b
def nt32 (a : Int) : Int := bits .xor .u32 4294967295 a
def shl32 (x k : Int) : Int := IntKind.u32.wrap (x * 2 ^ k.toNat)
def shrI (x k : Int) : Int := x / 2 ^ k.toNat
theorem or32_comm (a b : Int) : bits .or .u32 a b = bits .or .u32 b a := by
  show IntKind.u32.wrap (((BitVec.ofInt 32 a ||| BitVec.ofInt 32 b).toNat : Nat) : Int) = IntKind.u32.wrap (((BitVec.ofInt 32 b ||| BitVec.ofInt 32 a).toNat : Nat) : Int)
  rw [BitVec.or_comm]
def rot (x k : Int) : Int := or32 (shrI x k) (shl32 x (32 - k))
theorem w8_32 (b : UInt8) : IntKind.u32.wrap (b.toNat : Int) = (b.toNat : Int) := IntWalk.u32_in _ (by have := b.toNat_lt; omega)
def word32 (b : List UInt8) (t : Nat) : Int := or32 (or32 (or32 (shl32 (gb b (4 * t)).toNat 24) (shl32 (gb b (4 * t + 1)).toNat 16)) (shl32 (gb b (4 * t + 2)).toNat 8)) (gb b (4 * t + 3)).toNat
def sg (x : Int) (p q r : Int) : Int := xo32 (xo32 (rot x p) (rot x q)) (shrI x r)
def sG (x : Int) (p q r : Int) : Int := xo32 (xo32 (rot x p) (rot x q)) (rot x r)
def wnext (w : List Int) (t : Nat) : Int := w32 (w32 (w32 (w.getD (t - 16) 0 + sg (w.getD (t - 15) 0) 7 18 3) + w.getD (t - 7) 0) + sg (w.getD (t - 2) 0) 17 19 10)
def wsN (b : List UInt8) : Nat → List Int
  | 0 => []
  | n + 1 => wsN b n ++ [if n < 16 then word32 b n else wnext (wsN b n) n]
theorem zEk (b : List UInt8) : ∀ n, (wsN b n).length = n
  | 0 => rfl
  | n + 1 => by rw [wsN, List.length_append, zEk b n]; rfl
structure S8 where
  a : Int
  b : Int
  c : Int
  d : Int
  e : Int
  f : Int
  g : Int
  h : Int
def S8.t1 (s : S8) (k x : Int) : Int := w32 (w32 (w32 (w32 (s.h + sG s.e 6 11 25) + xo32 (an32 s.e s.f) (an32 (nt32 s.e) s.g)) + k) + x)
def S8.t2 (s : S8) : Int := w32 (sG s.a 2 13 22 + xo32 (xo32 (an32 s.a s.b) (an32 s.a s.c)) (an32 s.b s.c))
def S8.step (s : S8) (k x : Int) : S8 := ⟨w32 (s.t1 k x + s.t2), s.a, s.b, s.c, w32 (s.d + s.t1 k x), s.e, s.f, s.g⟩
def S8.mix (h : S8) (K ws : List Int) : Nat → S8
  | 0 => h
  | n + 1 => (S8.mix h K ws n).step (K.getD n 0) (ws.getD n 0)
def S8.add (h v : S8) : S8 := ⟨w32 (h.a + v.a), w32 (h.b + v.b), w32 (h.c + v.c), w32 (h.d + v.d), w32 (h.e + v.e), w32 (h.f + v.f), w32 (h.g + v.g), w32 (h.h + v.h)⟩
def S8.l (s : S8) : List Int := [s.a, s.b, s.c, s.d, s.e, s.f, s.g, s.h]
abbrev u32s (l : List Int) : List Value := l.map (Value.int .u32)
def shaK : List Int := [1116352408, 1899447441, 3049323471, 3921009573, 961987163, 1508970993, 2453635748, 2870763221, 3624381080, 310598401, 607225278, 1426881987, 1925078388, 2162078206, 2614888103, 3248222580, 3835390401, 4022224774, 264347078, 604807628, 770255983, 1249150122, 1555081692, 1996064986, 2554220882, 2821834349, 2952996808, 3210313671, 3336571891, 3584528711, 113926993, 338241895, 666307205, 773529912, 1294757372, 1396182291, 1695183700, 1986661051, 2177026350, 2456956037, 2730485921, 2820302411, 3259730800, 3345764771, 3516065817, 3600352804, 4094571909, 275423344, 430227734, 506948616, 659060556, 883997877, 958139571, 1322822218, 1537002063, 1747873779, 1955562222, 2024104815, 2227730452, 2361852424, 2428436474, 2756734187, 3204031479, 3329325298]
def sha0 : S8 := ⟨1779033703, 3144134277, 1013904242, 2773480762, 1359893119, 2600822924, 528734635, 1541459225⟩
def blk (all : List UInt8) (k : Nat) : List UInt8 := (all.drop (64 * k)).take 64
def shaStep (h : S8) (b : List UInt8) : S8 := h.add (h.mix shaK (wsN b 64) 64)
def shaH (all : List UInt8) : Nat → S8
  | 0 => sha0
  | k + 1 => shaStep (shaH all k) (blk all k)
def lenB (n : Nat) : Nat → List UInt8
  | 0 => []
  | k + 1 => lenB n k ++ [UInt8.ofNat (n / 2 ^ (56 - 8 * k))]
theorem zKh (n : Nat) : ∀ k, (lenB n k).length = k
  | 0 => rfl
  | k + 1 => by rw [lenB, List.length_append, zKh n k]; rfl
def padZ (n : Nat) : Nat := (119 - n % 64) % 64
def padL (b : List UInt8) : List UInt8 := b ++ [128] ++ List.replicate (padZ b.length) 0 ++ lenB (b.length * 8) 8
theorem zGm (b : List UInt8) : (padL b).length = b.length + 9 + padZ b.length := by
  simp only [padL, List.length_append, zKh, List.length_replicate, List.length_cons, List.length_nil]; omega
theorem padL_64 (b : List UInt8) : (padL b).length % 64 = 0 := by rw [zGm, padZ]; omega
def pairI (x y : Int) : Int := bits .or .u64 (IntKind.u64.wrap (IntKind.u64.wrap x * 2 ^ (32 : Int).toNat)) (IntKind.u64.wrap y)
theorem pairI_in (x y : Int) : 0 ≤ pairI x y ∧ pairI x y < 18446744073709551616 := by
  unfold pairI
  show 0 ≤ IntKind.u64.wrap _ ∧ IntKind.u64.wrap _ < _
  rw [IntKind.wrap_u64]; omega
def pairN (x y : Int) : Nat := (pairI x y).toNat
theorem pairN_eq (x y : Int) : ((pairN x y : Nat) : Int) = pairI x y := by have := pairI_in x y; unfold pairN; omega
def S8.fs (h : S8) : Fs := ⟨pairN h.a h.b, pairN h.c h.d, pairN h.e h.f, pairN h.g h.h⟩
def shaF (b : List UInt8) : Fs := (shaH (padL b) ((padL b).length / 64)).fs
theorem shaF_ok (b : List UInt8) : (shaF b).Ok := by
  have h (x y : Int) : pairN x y < 18446744073709551616 := by have := pairI_in x y; unfold pairN; omega
  exact ⟨h _ _, h _ _, h _ _, h _ _⟩
end Go.Sl
namespace Go.Sl
theorem and31 {k : Int} (h : 1 ≤ k ∧ k ≤ 31) : bits .and .u64 (18446744073709551616 - k) 31 = 32 - k := by
  have key : ∀ n : Fin 32, 1 ≤ n.val → bits .and .u64 (18446744073709551616 - (n.val : Int)) 31 = 32 - (n.val : Int) := by decide +kernel
  obtain ⟨n, rfl⟩ : ∃ n : Nat, k = n := ⟨k.toNat, by omega⟩
  exact key ⟨n, by omega⟩ (by show 1 ≤ n; omega)
theorem ws_at (b : List UInt8) (n j : Nat) (r : List Value) (h : j < n) : (u32s (wsN b n) ++ r)[j]? = some (.int .u32 ((wsN b n).getD j 0)) := by
  have hl := zEk b n
  rw [List.getElem?_append_left (by rw [List.length_map]; omega), List.getElem?_map, List.getElem?_eq_getElem (by omega), List.getD, List.getElem?_eq_getElem (by omega)]; rfl
theorem ws_step (b : List UInt8) (n : Nat) : u32s (wsN b (n + 1)) = u32s (wsN b n) ++ [.int .u32 (if n < 16 then word32 b n else wnext (wsN b n) n)] := by rw [wsN, u32s, List.map_append]; rfl
theorem zLe (l : List Int) {j : Nat} (h : j < l.length) : (u32s l)[j]? = some (.int .u32 (l.getD j 0)) := by
  rw [List.getElem?_map, List.getElem?_eq_getElem h, List.getD, List.getElem?_eq_getElem h]; rfl
theorem word_lit (b : List UInt8) {i : Nat} (h : 4 * i + 3 < b.length) : word32 b i = or32 (or32 (or32 (shl32 (b[4 * i]'(by omega)).toNat 24) (shl32 (b[4 * i + 1]'(by omega)).toNat 16)) (shl32 (b[4 * i + 2]'(by omega)).toNat 8)) (b[4 * i + 3]).toNat := by
  unfold word32; rw [gb_in b (by omega), gb_in b (by omega), gb_in b (by omega), gb_in b h]
def addL (h v : S8) (i : Nat) : List Int := (List.range 8).map fun j => if j < i then w32 (h.l.getD j 0 + v.l.getD j 0) else h.l.getD j 0
theorem zHi (h v : S8) (i : Nat) : (addL h v i).length = 8 := by simp [addL]
theorem addL_at (h v : S8) {i : Nat} (hi : i < 8) : (addL h v i).getD i 0 = h.l.getD i 0 := by
  have : i < (addL h v i).length := by rw [zHi]; exact hi
  rw [List.getD, List.getElem?_eq_getElem this]
  simp [addL]
theorem addL_set (h v : S8) {i : Nat} (hi : i < 8) : (u32s (addL h v i)).set i (.int .u32 (w32 (h.l.getD i 0 + v.l.getD i 0))) = u32s (addL h v (i + 1)) := by
  apply List.ext_getElem?
  intro j
  rw [List.getElem?_set, List.length_map, zHi]
  by_cases hj : i = j
  · subst hj; simp [addL, hi]
  · rw [if_neg hj]
    simp only [u32s, List.getElem?_map, addL]
    by_cases h8 : j < 8
    · rw [List.getElem?_range h8]
      simp only [Option.map_some]
      have : (j < i) ↔ (j < i + 1) := by omega
      simp only [this]
    · rw [List.getElem?_eq_none (l := List.range 8) (by simp; omega)]; rfl
theorem addL_zero (h v : S8) : addL h v 0 = h.l := rfl
theorem addL_end (h v : S8) : addL h v 8 = (h.add v).l := rfl
theorem Rd.cutc {C : zAw} {s m : Nat} {xs : List Value} {ad : Option Addr} {c lo hi : Nat} (h : Rd C s (.slice ad m c) m xs) (h1 : lo ≤ hi) (h2 : hi ≤ m) (h3 : hi ≤ c) :
    ∃ ad2, sliced ad lo hi c s = .slice ad2 (hi - lo) (c - lo) ∧ Rd C s (.slice ad2 (hi - lo) (c - lo)) (hi - lo) ((xs.drop (lo * s)).take ((hi - lo) * s)) :=
  ⟨_, rfl, h.piece rfl h1 h2 h3⟩
def Tab (As : List zAw) (g : Nat) (l : List Int) : Prop := ∃ G ∈ As, ∃ T fr, (g, Obj.cells (u32s l).toArray T fr) ∈ G
theorem Tab.tail {As : List zAw} {g : Nat} {l : List Int} {A : zAw} (h : Tab As g l) : Tab (A :: As) g l := by
  obtain ⟨G, hG, r⟩ := h; exact ⟨G, List.Mem.tail _ hG, r⟩
theorem Tab.cell {As : List zAw} {g : Nat} {l : List Int} {w : World} (h : Tab As g l) (S : Stab As w) {j : Nat} (hj : j < l.length) : w.cell? ⟨g, j, none⟩ = some (.int .u32 (l.getD j 0)) := by
  obtain ⟨G, hG, T, fr, hm⟩ := h
  exact zCw (S G hG _ hm) (zLe l hj)
theorem shaK_len : shaK.length = 64 := rfl
theorem shs {n k : Nat} (hk : k ≤ 7) : ((n : Int) * 8) / 2 ^ (56 - 8 * (k : Int)).toNat = ((n * 8 / 2 ^ (56 - 8 * k) : Nat) : Int) := by
  rw [show (56 - 8 * (k : Int)).toNat = 56 - 8 * k by omega]; simp
end Go.Sl
namespace Go.Proofs.YtbogecljkaimdaaGreatDoor
open Go.Sl
set_option maxRecDepth 10000
theorem rotl_ret (x k : Int) (hk : 1 ≤ k ∧ k ≤ 31) (w0 : World) : Ret Tryz.prog 136 #[.int .u32 x, .int .i64 (-k)] w0 fun u w' => u = .int .u32 (rot x k) ∧ Trs w0 w' [] [] := by
  have S := St.begin (hp_nil w0)
  refine zCl 17 Tryz.func136 rfl rfl (by decide) ?_; intro a E
  refine wp_seq_k ?_; intro K hK
  refine zAb ?_
  refine zp E (zAd E rfl rfl) ?_; clear E a; intro a E
  refine wpList_nil ?_
  refine zAf hK ?_; clear hK; clear K
  refine wp_seq_k ?_; intro K hK
  refine zAb ?_
  refine zp E (zAe E rfl rfl) ?_; clear E a; intro a E
  refine zp E (zBg E rfl rfl rfl rfl (r := 18446744073709551616 - k) (by rw [IntKind.wrap_u64]; omega)) ?_; clear E a; intro a E
  refine zp E (zGt E rfl rfl rfl (and31 hk)) ?_; clear E a; intro a E
  refine zp E (zAd E rfl rfl) ?_; clear E a; intro a E
  refine wpList_nil ?_
  refine zAf hK ?_; clear hK; clear K
  refine wp_seq_k ?_; intro K hK
  refine zAb ?_
  iterate 2 (refine zp E (zAe E rfl rfl) ?_; clear E a; intro a E)
  refine zp E (zFt E rfl rfl rfl (by omega) (by simp only [IntKind.bits]; omega) rfl) ?_; clear E a; intro a E
  iterate 2 (refine zp E (zAe E rfl rfl) ?_; clear E a; intro a E)
  refine zp E (zEe E rfl rfl rfl (show IntKind.u64.wrap (32 - (32 - k)) = k by rw [IntKind.wrap_u64]; omega)) ?_; clear E a; intro a E
  refine zp E (zHp E rfl rfl rfl (by omega) (by simp only [IntKind.bits]; omega) rfl) ?_; clear E a; intro a E
  refine zp E (zHt E rfl rfl rfl (or32_comm _ _)) ?_; clear E a; intro a E
  refine zp E (zAd E rfl rfl) ?_; clear E a; intro a E
  refine wpList_nil ?_
  refine zAf hK ?_; clear hK; clear K
  refine wp_ret ?_
  refine ret1 E rfl rfl ?_
  exact ⟨_, rfl, rfl, (S.only (Bs := []) (zAu _)).tr⟩
theorem zHr (x k : Int) (hk : 1 ≤ k ∧ k ≤ 31) (w0 : World) : Ret Tryz.prog 130 #[.int .u32 x, .int .i64 k] w0 fun u w' => u = .int .u32 (rot x k) ∧ Trs w0 w' [] [] := by
  have S := St.begin (hp_nil w0)
  refine zCl 9 Tryz.func130 rfl rfl (by decide) ?_; intro a E
  refine wp_seq_k ?_; intro K hK
  refine zAb ?_
  refine zp E (zAd E rfl rfl) ?_; clear E a; intro a E
  refine wpList_nil ?_
  refine zAf hK ?_; clear hK; clear K
  refine wp_seq_k ?_; intro K hK
  refine zAb ?_
  iterate 2 (refine zp E (zAe E rfl rfl) ?_; clear E a; intro a E)
  refine zp E (rn_neg E rfl rfl (by first | exact wn_in (by omega) | exact rfl)) ?_; clear E a; intro a E
  refine zAp E rfl rfl (by decide) rfl Tryz.func136 rfl (by kernel_rfl) rfl (rotl_ret x k hk _) ?_
  rintro v8 w ⟨rfl, hT⟩; clear E a; intro a E
  have S := S.quiet hT
  refine zp E (zAd E rfl rfl) ?_; clear E a; intro a E
  refine wpList_nil ?_
  refine zAf hK ?_; clear hK; clear K
  refine wp_ret ?_
  refine ret1 E rfl rfl ?_
  exact ⟨_, rfl, rfl, (S.only (Bs := []) (zAu _)).tr⟩
theorem schedule_ret (b : List UInt8) (hl : b.length = 64) (w0 : World) : Ret Tryz.prog 119 #[.agg (byt b).toArray] w0 fun u w' => u = .agg (u32s (wsN b 64)).toArray ∧ Trs w0 w' [] [] := by
  have S := St.begin (hp_nil w0)
  have hbl := zEi b
  refine zCu 85 Tryz.func119 rfl rfl (by decide) ?_; intro a E
  refine wp_seq_k ?_; intro K hK
  refine zAb ?_
  refine zAo rfl (zCm E S rfl rfl (by decide) rfl rfl ?_); clear E S a; intro a w b1 E S
  refine zAo rfl (zBy E S rfl rfl (by decide) rfl rfl rfl ?_); clear E S a; intro a w b2 E S
  refine wpList_nil ?_
  refine zAf hK ?_; clear hK; clear K
  refine wp_seq_k ?_; intro K hK
  refine zAb ?_
  refine zAo rfl (zBy E S rfl rfl (by decide) rfl rfl rfl ?_); clear E S a; intro a w b3 E S
  refine wpList_nil ?_
  refine zAf hK ?_; clear hK; clear K
  iterate 2 (refine wp_seq_k ?_; intro K hK)
  refine zAb ?_
  refine zp E (zAe E rfl rfl) ?_; clear E a; intro a E
  refine wpList_nil ?_
  refine zAf hK ?_; clear hK; clear K
  refine wp_block ?_
  refine wp_loop_ghost (fun (m : Nat) (a : Act) (w' : World) => ∃ i, m = 16 - i ∧ i ≤ 16 ∧ St w0 [] w' [[(b3, cel (u32s (wsN b i) ++ List.replicate (64 - i) (.int .u32 0)) 127)], [(b2, cel (List.replicate 64 (.int .u32 0)) 127)], [(b1, cel (byt b) 136)]] ∧ Fr a 85 [(1, ptr b1), (2, ptr b2), (3, ptr b3), (8, .int .i64 i)]) (16 - 0) ?_ ?_
  · exact ⟨0, rfl, by omega, S, E.keep (zAa rfl (zAa rfl (zAa rfl (zAa rfl zAm))))⟩
  clear E; clear a; (try clear S); rintro m a w ⟨i, rfl, hi, S, E⟩
  refine wp_seq_k ?_; intro K hK
  refine zAb ?_
  refine zp E (zCk E rfl rfl rfl) ?_; clear E a; intro a E
  refine wpList_nil ?_
  refine zAf hK ?_; clear hK; clear K
  refine wp_seq_k ?_; intro K hK
  refine zBh E rfl (fun hb => ?_) (fun hb => ?_)
  · replace hb := Nrm.nrm hb
    refine wp_skip ?_
    refine zAf hK ?_; clear hK; clear K
    refine wp_seq_k ?_; intro K hK
    refine wp_block ?_
    refine wp_seq_k ?_; intro K hK
    refine zAb ?_
    refine zp E (zAe E rfl rfl) ?_; clear E a; intro a E
    refine zp E (zAd E rfl rfl) ?_; clear E a; intro a E
    refine wpList_nil ?_
    refine zAf hK ?_; clear hK; clear K
    have hwl := zEk b i
    have hst := ws_step b i
    rw [if_pos (by omega), word_lit b (by omega)] at hst
    refine zCb S (.ofL [(0, 0), (1, 0), (2, 0), (3, 0), (4, 0), (5, 0), (6, 0), (7, 0), (8, 0), (9, 0), (10, 0), (11, 0), (12, 0), (13, 0), (14, 0), (15, 0), (16, 0), (17, 0), (18, 0), (19, 0), (20, 0), (21, 0), (22, 0), (23, 0), (24, 0), (25, 0), (26, 0), (27, 0), (28, 0), (29, 0), (30, 0), (31, 3)]) (by kernel_rfl) (by kernel_rfl) ?_
    clear S; intro w S
    iterate 2 (refine zm E rfl (fun w h => zAe E rfl rfl) ?_; clear E a; intro a E)
    refine zm E rfl (fun w h => zFm E rfl rfl rfl (by first | exact zGr (x := 4) (by omega) | exact zFd (x := 4) (by omega) | exact w_in (by omega) | exact rfl)) ?_; clear E a; intro a E
    refine zm E rfl (fun w h => zCp (i := 4 * i) E rfl rfl rfl rfl rfl rfl (by omega)) ?_; clear E a; intro a E
    refine zm E rfl (fun w h => zAj E rfl rfl rfl (zCw (h.one (by repeat (first | exact mm1 | assumption | apply List.Mem.tail))) (zJv b (i := 4 * i) (by omega)))) ?_; clear E a; intro a E
    refine zm E rfl (fun w h => zBg E rfl rfl rfl rfl (w8_32 _)) ?_; clear E a; intro a E
    refine zm E rfl (fun w h => zFt E rfl rfl rfl (by omega) (by simp only [IntKind.bits]; omega) rfl) ?_; clear E a; intro a E
    refine zm E rfl (fun w h => zAe E rfl rfl) ?_; clear E a; intro a E
    refine zm E rfl (fun w h => zFm E rfl rfl rfl (by first | exact zGr (x := 4) (by omega) | exact zFd (x := 4) (by omega) | exact w_in (by omega) | exact rfl)) ?_; clear E a; intro a E
    refine zm E rfl (fun w h => zBt E rfl rfl rfl (by first | exact zCh (y := 1) (by omega) | exact w_in (by omega) | exact zBw (by omega) | exact rfl)) ?_; clear E a; intro a E
    refine zm E rfl (fun w h => zCp (i := 4 * i + 1) E rfl rfl rfl rfl rfl rfl (by omega)) ?_; clear E a; intro a E
    refine zm E rfl (fun w h => zAj E rfl rfl rfl (zCw (h.one (by repeat (first | exact mm1 | assumption | apply List.Mem.tail))) (zJv b (i := 4 * i + 1) (by omega)))) ?_; clear E a; intro a E
    refine zm E rfl (fun w h => zBg E rfl rfl rfl rfl (w8_32 _)) ?_; clear E a; intro a E
    refine zm E rfl (fun w h => zFt E rfl rfl rfl (by omega) (by simp only [IntKind.bits]; omega) rfl) ?_; clear E a; intro a E
    refine zm E rfl (fun w h => zHt E rfl rfl rfl rfl) ?_; clear E a; intro a E
    refine zm E rfl (fun w h => zAe E rfl rfl) ?_; clear E a; intro a E
    refine zm E rfl (fun w h => zFm E rfl rfl rfl (by first | exact zGr (x := 4) (by omega) | exact zFd (x := 4) (by omega) | exact w_in (by omega) | exact rfl)) ?_; clear E a; intro a E
    refine zm E rfl (fun w h => zBt E rfl rfl rfl (by first | exact zCh (y := 2) (by omega) | exact w_in (by omega) | exact zBw (by omega) | exact rfl)) ?_; clear E a; intro a E
    refine zm E rfl (fun w h => zCp (i := 4 * i + 2) E rfl rfl rfl rfl rfl rfl (by omega)) ?_; clear E a; intro a E
    refine zm E rfl (fun w h => zAj E rfl rfl rfl (zCw (h.one (by repeat (first | exact mm1 | assumption | apply List.Mem.tail))) (zJv b (i := 4 * i + 2) (by omega)))) ?_; clear E a; intro a E
    refine zm E rfl (fun w h => zBg E rfl rfl rfl rfl (w8_32 _)) ?_; clear E a; intro a E
    refine zm E rfl (fun w h => zFt E rfl rfl rfl (by omega) (by simp only [IntKind.bits]; omega) rfl) ?_; clear E a; intro a E
    refine zm E rfl (fun w h => zHt E rfl rfl rfl rfl) ?_; clear E a; intro a E
    refine zm E rfl (fun w h => zAe E rfl rfl) ?_; clear E a; intro a E
    refine zm E rfl (fun w h => zFm E rfl rfl rfl (by first | exact zGr (x := 4) (by omega) | exact zFd (x := 4) (by omega) | exact w_in (by omega) | exact rfl)) ?_; clear E a; intro a E
    refine zm E rfl (fun w h => zBt E rfl rfl rfl (by first | exact zCh (y := 3) (by omega) | exact w_in (by omega) | exact zBw (by omega) | exact rfl)) ?_; clear E a; intro a E
    refine zm E rfl (fun w h => zCp (i := 4 * i + 3) E rfl rfl rfl rfl rfl rfl (by omega)) ?_; clear E a; intro a E
    refine zm E rfl (fun w h => zAj E rfl rfl rfl (zCw (h.one (by repeat (first | exact mm1 | assumption | apply List.Mem.tail))) (zJv b (i := 4 * i + 3) (by omega)))) ?_; clear E a; intro a E
    refine zm E rfl (fun w h => zBg E rfl rfl rfl rfl (w8_32 _)) ?_; clear E a; intro a E
    refine zm E rfl (fun w h => zHt E rfl rfl rfl rfl) ?_; clear E a; intro a E
    refine zm E rfl (fun w h => zCp (i := i) E rfl rfl rfl rfl rfl rfl (by omega)) ?_; clear E a; intro a E
    refine zCt rfl rfl (zBp E S rfl rfl rfl rfl rfl rfl (by repeat (first | exact pk1 | apply zAc)) (by rw [List.length_append, List.length_map, List.length_replicate]; omega) ?_); clear E S a; intro a w E S; try dsimp only [List.set] at S
    rw [zGu (u32s (wsN b i)) 64 (.int .u32 0) _ i (by rw [List.length_map, hwl]) (by omega)] at S
    refine zBz ?_
    refine zBe ?_
    refine zAf hK ?_; clear hK; clear K
    refine zAb ?_
    refine zp E (zBt E rfl rfl rfl (by first | exact zCh (y := 1) (by omega) | exact w_in (by omega) | exact zBw (by omega) | exact rfl)) ?_; clear E a; intro a E
    refine zp E (zAe E rfl rfl) ?_; clear E a; intro a E
    refine wpList_nil ?_
    refine zBj ?_
    exact ⟨_, by omega, i + 1, rfl, by omega, by rw [hst]; exact S, E.keep (zAa rfl (zAa rfl (zAa rfl (zAa rfl zAm))))⟩
  · replace hb := Nrm.nrm hb
    refine wp_exit ?_
    refine zBa ?_; clear hK; clear K
    refine zBa ?_
    refine zCg ?_
    refine zAf hK ?_; clear hK; clear K
    iterate 2 (refine wp_seq_k ?_; intro K hK)
    refine zAb ?_
    refine zp E (zAd E rfl rfl) ?_; clear E a; intro a E
    refine wpList_nil ?_
    refine zAf hK ?_; clear hK; clear K
    refine wp_block ?_
    refine wp_loop_ghost (fun (m : Nat) (a : Act) (w' : World) => ∃ i, m = 64 - i ∧ 16 ≤ i ∧ i ≤ 64 ∧ St w0 [] w' [[(b3, cel (u32s (wsN b i) ++ List.replicate (64 - i) (.int .u32 0)) 127)], [(b2, cel (List.replicate 64 (.int .u32 0)) 127)], [(b1, cel (byt b) 136)]] ∧ Fr a 85 [(2, ptr b2), (3, ptr b3), (5, .int .i64 i)]) (64 - 16) ?_ ?_
    · exact ⟨16, rfl, by omega, by omega, by obtain rfl : i = 16 := (by omega); exact S, E.keep (zAa rfl (zAa rfl (zAa rfl zAm)))⟩
    clear E; clear a; (try clear S); rintro m a w ⟨i, rfl, h16, hi, S, E⟩
    iterate 2 (refine wp_seq_k ?_; intro K hK)
    refine zAb ?_
    refine zp E (zAe E rfl rfl) ?_; clear E a; intro a E
    refine zp E (zCk E rfl rfl rfl) ?_; clear E a; intro a E
    refine wpList_nil ?_
    refine zAf hK ?_; clear hK; clear K
    refine zBh E rfl (fun hb => ?_) (fun hb => ?_)
    · replace hb := Nrm.nrm hb
      refine wp_skip ?_
      refine zAf hK ?_; clear hK; clear K
      refine wp_seq_k ?_; intro K hK
      refine wp_block ?_
      refine wp_seq_k ?_; intro K hK
      have hwl := zEk b i
      have hst := ws_step b i
      rw [if_neg (by omega)] at hst
      refine zCb S (.ofL [(0, 0), (1, 0), (2, 0), (3, 0), (4, 0), (5, 0), (6, 0), (7, 0), (8, 0), (9, 0)]) (by kernel_rfl) (by kernel_rfl) ?_
      clear S; intro w S
      refine zm E rfl (fun w h => zAe E rfl rfl) ?_; clear E a; intro a E
      refine zm E rfl (fun w h => zEe E rfl rfl rfl (by first | exact zFu (y := 15) (by omega) (by omega) | exact w_in (by omega) | exact zBw (by omega) | exact rfl)) ?_; clear E a; intro a E
      refine zm E rfl (fun w h => zCp (i := i - 15) E rfl rfl rfl rfl rfl rfl (by omega)) ?_; clear E a; intro a E
      refine zm E rfl (fun w h => zAj E rfl rfl rfl (zCw (h.one (by repeat (first | exact mm1 | assumption | apply List.Mem.tail))) (ws_at b i (i - 15) _ (by omega)))) ?_; clear E a; intro a E
      refine zm E rfl (fun w h => zAe E rfl rfl) ?_; clear E a; intro a E
      refine zm E rfl (fun w h => zEe E rfl rfl rfl (by first | exact zFu (y := 2) (by omega) (by omega) | exact w_in (by omega) | exact zBw (by omega) | exact rfl)) ?_; clear E a; intro a E
      refine zm E rfl (fun w h => zCp (i := i - 2) E rfl rfl rfl rfl rfl rfl (by omega)) ?_; clear E a; intro a E
      refine zm E rfl (fun w h => zAj E rfl rfl rfl (zCw (h.one (by repeat (first | exact mm1 | assumption | apply List.Mem.tail))) (ws_at b i (i - 2) _ (by omega)))) ?_; clear E a; intro a E
      iterate 2 (refine zm E rfl (fun w h => zAd E rfl rfl) ?_; clear E a; intro a E)
      refine zBz ?_
      refine zAf hK ?_; clear hK; clear K
      refine zCb S (.ofL [(0, 0), (1, 0), (2, 0), (3, 0), (4, 0), (5, 0), (7, 0), (10, 0), (11, 0), (14, 0), (15, 0), (16, 0), (17, 0), (19, 0), (21, 0), (24, 0), (25, 0), (6, 1), (8, 1), (9, 0), (12, 0), (13, 0), (18, 0), (20, 1), (22, 1), (23, 0), (26, 0), (27, 0), (28, 0), (29, 3)]) (by kernel_rfl) (by kernel_rfl) ?_
      clear S; intro w S
      iterate 2 (refine zm E rfl (fun w h => zAe E rfl rfl) ?_; clear E a; intro a E)
      refine zm E rfl (fun w h => zEe E rfl rfl rfl (by first | exact zFu (y := 16) (by omega) (by omega) | exact w_in (by omega) | exact zBw (by omega) | exact rfl)) ?_; clear E a; intro a E
      refine zm E rfl (fun w h => zCp (i := i - 16) E rfl rfl rfl rfl rfl rfl (by omega)) ?_; clear E a; intro a E
      refine zm E rfl (fun w h => zAj E rfl rfl rfl (zCw (h.one (by repeat (first | exact mm1 | assumption | apply List.Mem.tail))) (ws_at b i (i - 16) _ (by omega)))) ?_; clear E a; intro a E
      iterate 3 (refine zm E rfl (fun w h => zAe E rfl rfl) ?_; clear E a; intro a E)
      refine zm E rfl (fun w h => zHp E rfl rfl rfl (by omega) (by simp only [IntKind.bits]; omega) rfl) ?_; clear E a; intro a E
      refine zm E rfl (fun w h => zAe E rfl rfl) ?_; clear E a; intro a E
      refine zm E rfl (fun w h => zEe E rfl rfl rfl (by first | exact zFu (y := 7) (by omega) (by omega) | exact w_in (by omega) | exact zBw (by omega) | exact rfl)) ?_; clear E a; intro a E
      refine zm E rfl (fun w h => zCp (i := i - 7) E rfl rfl rfl rfl rfl rfl (by omega)) ?_; clear E a; intro a E
      refine zm E rfl (fun w h => zAj E rfl rfl rfl (zCw (h.one (by repeat (first | exact mm1 | assumption | apply List.Mem.tail))) (ws_at b i (i - 7) _ (by omega)))) ?_; clear E a; intro a E
      iterate 3 (refine zm E rfl (fun w h => zAe E rfl rfl) ?_; clear E a; intro a E)
      refine zm E rfl (fun w h => zHp E rfl rfl rfl (by omega) (by simp only [IntKind.bits]; omega) rfl) ?_; clear E a; intro a E
      refine zCd E rfl rfl rfl (by decide) rfl Tryz.func130 rfl (by kernel_rfl) rfl (zHr _ 7 (by omega) _) ?_
      rintro v61 w ⟨rfl, hT⟩; clear E a; intro a E
      have S := S.quiet hT
      refine ⟨S.stab.sub (by first | (simp; done) | (simp +contextual; done) | (simp [*]; done)), ?_⟩
      refine zCd E rfl rfl rfl (by decide) rfl Tryz.func130 rfl (by kernel_rfl) rfl (zHr _ 18 (by omega) _) ?_
      rintro v63 w ⟨rfl, hT⟩; clear E a; intro a E
      have S := S.quiet hT
      refine ⟨S.stab.sub (by first | (simp; done) | (simp +contextual; done) | (simp [*]; done)), ?_⟩
      iterate 2 (refine zm E rfl (fun w h => zEv E rfl rfl rfl rfl) ?_; clear E a; intro a E)
      iterate 2 (refine zm E rfl (fun w h => zBt E rfl rfl rfl (by first | exact wa1 (by omega) | exact w_in (by omega) | exact zBw (by omega) | exact rfl)) ?_; clear E a; intro a E)
      refine zCd E rfl rfl rfl (by decide) rfl Tryz.func130 rfl (by kernel_rfl) rfl (zHr _ 17 (by omega) _) ?_
      rintro v75 w ⟨rfl, hT⟩; clear E a; intro a E
      have S := S.quiet hT
      refine ⟨S.stab.sub (by first | (simp; done) | (simp +contextual; done) | (simp [*]; done)), ?_⟩
      refine zCd E rfl rfl rfl (by decide) rfl Tryz.func130 rfl (by kernel_rfl) rfl (zHr _ 19 (by omega) _) ?_
      rintro v77 w ⟨rfl, hT⟩; clear E a; intro a E
      have S := S.quiet hT
      refine ⟨S.stab.sub (by first | (simp; done) | (simp +contextual; done) | (simp [*]; done)), ?_⟩
      iterate 2 (refine zm E rfl (fun w h => zEv E rfl rfl rfl rfl) ?_; clear E a; intro a E)
      refine zm E rfl (fun w h => zBt E rfl rfl rfl (by first | exact wa1 (by omega) | exact w_in (by omega) | exact zBw (by omega) | exact rfl)) ?_; clear E a; intro a E
      refine zm E rfl (fun w h => zCp (i := i) E rfl rfl rfl rfl rfl rfl (by omega)) ?_; clear E a; intro a E
      refine zCt rfl rfl (zBp E S rfl rfl rfl rfl rfl rfl (by repeat (first | exact pk1 | apply zAc)) (by rw [List.length_append, List.length_map, List.length_replicate]; omega) ?_); clear E S a; intro a w E S; try dsimp only [List.set] at S
      rw [zGu (u32s (wsN b i)) 64 (.int .u32 0) _ i (by rw [List.length_map, hwl]) (by omega)] at S
      refine zBz ?_
      refine zBe ?_
      refine zAf hK ?_; clear hK; clear K
      refine zAb ?_
      refine zp E (zAe E rfl rfl) ?_; clear E a; intro a E
      refine zp E (zBt E rfl rfl rfl (by first | exact zCh (y := 1) (by omega) | exact w_in (by omega) | exact zBw (by omega) | exact rfl)) ?_; clear E a; intro a E
      refine zp E (zAd E rfl rfl) ?_; clear E a; intro a E
      refine wpList_nil ?_
      refine zBj ?_
      exact ⟨_, by omega, i + 1, rfl, by omega, by omega, by rw [hst]; exact S, E.keep (zAa rfl (zAa rfl (zAa rfl zAm)))⟩
    · replace hb := Nrm.nrm hb
      refine wp_exit ?_
      refine zBa ?_; clear hK; clear K
      refine zBa ?_
      refine zCg ?_
      refine zAf hK ?_; clear hK; clear K
      refine wp_seq_k ?_; intro K hK
      obtain rfl : i = 64 := by omega
      have hwl := zEk b 64
      rw [Nat.sub_self, List.replicate_zero, List.append_nil] at S
      obtain ⟨ws, hws⟩ : ∃ ws, ws = wsN b 64 := ⟨_, rfl⟩
      rw [← hws] at S hwl ⊢
      have hul : (u32s ws).length = 64 := by rw [List.length_map, hwl]
      refine zAb ?_
      refine zp E (zFo E rfl rfl rfl (S.get (by repeat (first | exact pk1 | apply zAc))) hul) ?_; clear E a; intro a E
      refine zAo rfl (zGb E S rfl rfl rfl rfl (zIf ws) rfl hul (by repeat (first | exact pk1 | apply zAc)) (by rw [hul]; rfl) ?_); clear E S a; intro a w E S
      refine wpList_nil ?_
      refine zAf hK ?_; clear hK; clear K
      refine wp_ret ?_
      refine zIe E rfl rfl (S.get (by repeat (first | exact pk1 | apply zAc))) (by rw [hul]; rfl) ?_
      exact ⟨_, rfl, (by first | (rw [← hws]; done) | with_reducible rfl), (S.only (Bs := []) (zAu _)).tr⟩
end Go.Proofs.YtbogecljkaimdaaGreatDoor
