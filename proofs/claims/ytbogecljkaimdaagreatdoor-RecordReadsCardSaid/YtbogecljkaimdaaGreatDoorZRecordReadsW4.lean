/-
  Texts put together (4).
-/
import Derived.Test.YtbogecljkaimdaaGreatDoorZRecordReadsW3
set_option maxHeartbeats 1000000
namespace Go.Proofs.YtbogecljkaimdaaGreatDoor
open Go.Sl
set_option maxRecDepth 10000
theorem zJw (l : List UInt8) (c : UInt8) (As : List zAl) (w0 : World) (H : Hp w0 As) :
  Ret Tryz.prog 131 #[str l, .int .u8 c.toNat] w0 fun u w' => u = .int .i64 (Lib.indexByte l c) ∧ Trs w0 w' As As := by
 have S := St.begin H
 refine zBt 8 Tryz.func131 rfl rfl dZ ?_; intro a E
 refine wp_seq_k ?_; intro K hK
 refine zAa ?_
 refine zd E ?_; clear E a; intro a E
 refine wpList_nil ?_
 refine zAb hK ?_; clear hK K
 refine wp_seq_k ?_; intro K hK
 refine zAa ?_
 iterate 2 (refine zd E ?_; clear E a; intro a E)
 refine zAg rfl (zGe E (rn_ibyte (l := l) (c := c) E rfl Tryz.func137 yZ yZ yZ yZ rfl rfl) rfl dZ ?_); clear E a; intro a E
 refine zd E ?_; clear E a; intro a E
 refine wpList_nil ?_
 refine zAb hK ?_; clear hK K
 refine wp_ret ?_
 refine ret1 E rfl rfl ?_
 exact ⟨_, rfl, rfl, S.tr⟩
theorem zKt (l : List UInt8) (c : UInt8) (As : List zAl) (w0 : World) (H : Hp w0 As) :
  Ret Tryz.prog 122 #[str l, .int .u8 c.toNat] w0 fun u w' => u = .int .i64 (Lib.indexByte l c) ∧ Trs w0 w' As As := by
 have S := St.begin H
 refine zBt 8 Tryz.func122 rfl rfl dZ ?_; intro a E
 refine wp_seq_k ?_; intro K hK
 refine zAa ?_
 refine zd E ?_; clear E a; intro a E
 refine wpList_nil ?_
 refine zAb hK ?_; clear hK K
 refine wp_seq_k ?_; intro K hK
 refine zAa ?_
 iterate 2 (refine zd E ?_; clear E a; intro a E)
 refine zAh E rfl rfl dZ rfl Tryz.func131 rfl yZ rfl (zJw l c _ _ S.hp) ?_
 rintro v7 w ⟨rfl, hT⟩; clear E a; intro a E
 have S := S.all hT
 refine zd E ?_; clear E a; intro a E
 refine wpList_nil ?_
 refine zAb hK ?_; clear hK K
 refine wp_ret ?_
 refine ret1 E rfl rfl ?_
 exact ⟨_, rfl, rfl, S.tr⟩
theorem dots_small (c : UInt8) (h : c.toNat < 128) : (0 ≤ Lib.indexByte [46, 95, 45] c) ↔ dotB c = true := by
 rw [dotB_iff]
 have e : ∀ k : UInt8, (k == c) = decide (c.toNat = k.toNat) := fun k => by
  by_cases hk : k = c
  ·subst hk; simp
  ·have : ¬ c.toNat = k.toNat := fun hh => hk (UInt8.toNat_inj.1 hh.symm)
   simp [hk, this]
 simp only [Lib.indexByte, e, show (46 : UInt8).toNat = 46 from rfl, show (95 : UInt8).toNat = 95 from rfl, show (45 : UInt8).toNat = 45 from rfl, decide_eq_true_eq]
 by_cases h1 : c.toNat = 46
 ·simp [h1]
 by_cases h2 : c.toNat = 95
 ·simp [h2]
 by_cases h3 : c.toNat = 45
 ·simp [h3]
 ·simp [h1, h2, h3]
theorem noDash (n : Nat) : ((45 : UInt8) == UInt8.ofNat (128 + n % 64)) = false := by
 rw [beq_eq_false_iff_ne]
 intro h
 have := congrArg UInt8.toNat h
 simp at this
 omega
theorem vrune_ret (c : UInt8) (As : List zAl) (w0 : World) (H : Hp w0 As) :
  Ret Tryz.prog 123 #[.int .i32 c.toNat] w0 fun u w' => u = .bool true ∧ Trs w0 w' As As := by
 have S := St.begin H
 have hc := c.toNat_lt
 refine zCd 17 Tryz.func123 rfl rfl dZ ?_; intro a E
 refine wp_seq_k ?_; intro K hK
 refine zAa ?_
 refine zd E ?_; clear E a; intro a E
 refine wpList_nil ?_
 refine zAb hK ?_; clear hK K
 refine wp_seq_k ?_; intro K hK
 refine wp_block ?_
 refine wp_seq_k ?_; intro K hK
 refine zAa ?_
 iterate 3 (refine zd E ?_; clear E a; intro a E)
 refine zCc E (t := 6) rfl ((by simp)) (fun hb6 => ?_)
 iterate 2 (refine zyd E hb6 ?_; clear E a; intro a E)
 refine zp E (zAf E rfl rfl hb6 rfl) ?_; clear E a; intro a E
 refine zd E ?_; clear E a; intro a E
 refine wpList_nil ?_
 refine zAb hK ?_; clear hK K
 refine zBo E rfl ((by simp only [decide_eq_true_eq]; omega)) ?_
 refine wp_seq_k ?_; intro K hK
 refine zAa ?_
 refine zd E ?_; clear E a; intro a E
 refine wpList_nil ?_
 refine zAb hK ?_; clear hK K
 refine wp_ret ?_
 refine zBw ?_
 refine zAn ?_; clear hK K
 refine ret1 E rfl rfl ?_
 exact ⟨_, rfl, rfl, S.tr⟩
theorem irune_ret (c : UInt8) (As : List zAl) (w0 : World) (H : Hp w0 As) :
  Ret Tryz.prog 114 #[str [46, 95, 45], .int .i32 c.toNat] w0 fun u w' => ∃ i : Int, u = .int .i64 i ∧ (0 ≤ i ↔ dotB c = true) ∧ Trs w0 w' As As := by
 have S := St.begin H
 have hc := c.toNat_lt
 refine zBt 187 Tryz.func114 rfl rfl dZ ?_; intro a E
 refine wp_seq_k ?_; intro K hK
 refine zAa ?_
 refine zd E ?_; clear E a; intro a E
 refine wpList_nil ?_
 refine zAb hK ?_; clear hK K
 refine wp_block ?_
 refine wp_seq_k ?_; intro K hK
 refine zAa ?_
 iterate 3 (refine zd E ?_; clear E a; intro a E)
 refine zCc E (t := 163) rfl ((by simp)) (fun hb163 => ?_)
 iterate 2 (refine zyd E hb163 ?_; clear E a; intro a E)
 refine zp E (zAf E rfl rfl hb163 rfl) ?_; clear E a; intro a E
 refine zd E ?_; clear E a; intro a E
 refine wpList_nil ?_
 refine zAb hK ?_; clear hK K
 refine zAs E rfl (fun hb => ?_) (fun hb => ?_)
 ·replace hb := Nrm.nrm hb
  refine wp_seq_k ?_; intro K hK
  refine zAa ?_
  iterate 2 (refine zd E ?_; clear E a; intro a E)
  refine zp E (zAo E rfl rfl rfl rfl (w8c _)) ?_; clear E a; intro a E
  refine zAh E rfl rfl dZ rfl Tryz.func122 rfl yZ rfl (zKt [46, 95, 45] c _ _ S.hp) ?_
  rintro v170 w ⟨rfl, hT⟩; clear E a; intro a E
  have S := S.all hT
  refine zd E ?_; clear E a; intro a E
  refine wpList_nil ?_
  refine zAb hK ?_; clear hK K
  refine wp_ret ?_
  refine zBw ?_
  refine ret1 E rfl rfl ?_
  exact ⟨_, rfl, _, rfl, dots_small c oZ, S.tr⟩
 ·replace hb := Nrm.nrm hb
  have hge : 128 ≤ c.toNat := oZ
  refine wp_seq_k ?_; intro K hK
  refine zAa ?_
  iterate 3 (refine zd E ?_; clear E a; intro a E)
  refine wpList_nil ?_
  refine zAb hK ?_; clear hK K
  refine zAs E rfl (fun hb => ?_) (fun hb => ?_)
  ·replace hb := Nrm.nrm hb
   exfalso; omega
  ·replace hb := Nrm.nrm hb
   refine wp_seq_k ?_; intro K hK
   refine zAa ?_
   refine zd E ?_; clear E a; intro a E
   refine zAh E rfl rfl dZ rfl Tryz.func123 rfl yZ rfl (vrune_ret c _ _ S.hp) ?_
   rintro v185 w ⟨rfl, hT⟩; clear E a; intro a E
   have S := S.all hT
   iterate 2 (refine zd E ?_; clear E a; intro a E)
   refine wpList_nil ?_
   refine zAb hK ?_; clear hK K
   refine zCq E rfl ((by rfl)) ?_
   refine wp_scope1 ?_
   refine wp_seq_k ?_; intro K hK
   refine zAa ?_
   refine zd E ?_; clear E a; intro a E
   refine zp E (rn_itos E rfl rfl rfl rfl oZ oZ) ?_; clear E a; intro a E
   refine zd E ?_; clear E a; intro a E
   refine wpList_nil ?_
   refine zAb hK ?_; clear hK K
   refine wp_seq_k ?_; intro K hK
   refine zAa ?_
   iterate 2 (refine zd E ?_; clear E a; intro a E)
   refine zp E (zCv E rfl rfl rfl (by first | exact zFc (y := 1) oZ oZ | exact w_in oZ | exact zBb oZ | exact rfl)) ?_; clear E a; intro a E
   refine zd E ?_; clear E a; intro a E
   refine wpList_nil ?_
   refine zAb hK ?_; clear hK K
   refine wp_seq_k ?_; intro K hK
   replace E := E.keep (e' := [(0, _), (1, _), (4, _), (7, _), (8, _)]) (kE5 rfl rfl rfl rfl rfl)
   refine zAa ?_
   iterate 2 (refine zd E ?_; clear E a; intro a E)
   refine wpList_nil ?_
   refine zAb hK ?_; clear hK K
   refine wp_seq_k ?_; intro K hK
   refine zAa ?_
   refine zd E ?_; clear E a; intro a E
   refine wpList_nil ?_
   refine zAb hK ?_; clear hK K
   refine wp_seq_k ?_; intro K hK
   refine wp_block ?_
   refine wp_loop_ghost (fun (m : Nat) (a : Act) (w' : World) => m = 0 ∧ St w0 As w' As ∧ Fr a 187 [(0, str [46, 95, 45]), (1, .int .i32 c.toNat), (7, str [UInt8.ofNat (192 + c.toNat / 64), UInt8.ofNat (128 + c.toNat % 64)]), (8, .int .i64 1), (9, .int .i64 1), (10, .int .i64 0)]) (0) ?_ ?_
   ·exact ⟨rfl, S, E.keep (kE6 rfl rfl rfl rfl rfl rfl)⟩
   clear E; clear a; (try clear S); rintro m a w ⟨rfl, S, E⟩
   iterate 2 (refine wp_seq_k ?_; intro K hK)
   refine zAa ?_
   iterate 4 (refine zd E ?_; clear E a; intro a E)
   refine wpList_nil ?_
   refine zAb hK ?_; clear hK K
   refine zBo E rfl ((by rfl)) ?_
   refine wp_skip ?_
   refine zAb hK ?_; clear hK K
   refine wp_block ?_
   refine wp_scope1 ?_
   iterate 2 (refine wp_seq_k ?_; intro K hK)
   refine zBg S (.ofL [(0, 0), (1, 0), (2, 0), (3, 0), (4, 0), (5, 0), (6, 0)]) yZ yZ ?_
   clear S; intro w S
   iterate 2 (refine zmd E ?_; clear E a; intro a E)
   refine zm E rfl (fun w h => zCi (l := [46, 95, 45]) (i := 1) E rfl rfl rfl rfl rfl dZ) ?_; clear E a; intro a E
   iterate 2 (refine zmd E ?_; clear E a; intro a E)
   refine zm E rfl (fun w h => zCi (l := [UInt8.ofNat (192 + c.toNat / 64), UInt8.ofNat (128 + c.toNat % 64)]) (i := 1) E rfl rfl rfl rfl rfl (Nat.le_of_ble_eq_true rfl)) ?_; clear E a; intro a E
   refine zmd E ?_; clear E a; intro a E
   refine zBi ?_
   refine zAb hK ?_; clear hK K
   refine zBo E rfl ((by simp; omega)) ?_
   refine wp_seq_k ?_; intro K hK
   refine zBg S (.ofL [(0, 0), (1, 0), (2, 0), (3, 0), (4, 0), (5, 0), (6, 0), (7, 3), (8, 2)]) yZ yZ ?_
   clear S; intro w S
   iterate 2 (refine zmd E ?_; clear E a; intro a E)
   refine zm E rfl (fun w h => zBc E rfl rfl rfl (by first | exact zBq (y := 1) oZ | exact w_in oZ | exact zBb oZ | exact rfl)) ?_; clear E a; intro a E
   refine zm E rfl (fun w h => zLm (lo := 2) E rfl rfl rfl rfl rfl (Nat.le_of_ble_eq_true rfl)) ?_; clear E a; intro a E
   iterate 2 (refine zmd E ?_; clear E a; intro a E)
   refine zm E rfl (fun w h => zCi (l := [UInt8.ofNat (192 + c.toNat / 64), UInt8.ofNat (128 + c.toNat % 64)]) (i := 1) E rfl rfl rfl rfl rfl (Nat.le_of_ble_eq_true rfl)) ?_; clear E a; intro a E
   refine zFs E rfl rfl rfl dZ rfl Tryz.func122 rfl yZ rfl (zKt [45] (UInt8.ofNat (128 + c.toNat % 64)) _ _ S.hp) ?_
   rintro v41 w ⟨rfl, hT⟩; clear E a; intro a E
   have S := S.all hT
   refine zCg E rfl rfl rfl dZ (fun w => zCl E rfl rfl) ?_; clear E a; intro a E
   refine zBi ?_
   refine zAb hK ?_; clear hK K
   iterate 2 (refine wp_seq_k ?_; intro K hK)
   refine zAa ?_
   iterate 2 (refine zd E ?_; clear E a; intro a E)
   refine wpList_nil ?_
   refine zAb hK ?_; clear hK K
   refine zBo E rfl ((by simp only [Lib.indexByte, noDash c.toNat]; rfl)) ?_
   refine wp_seq_k ?_; intro K hK
   refine zAa ?_
   refine zd E ?_; clear E a; intro a E
   refine wpList_nil ?_
   refine zAb hK ?_; clear hK K
   refine wp_ret ?_
   iterate 2 (refine zAn ?_; clear hK K)
   refine sc_ret ?_
   refine zBw ?_
   refine zAn ?_
   refine zBw ?_
   refine zAn ?_; clear hK K
   refine sc_ret ?_
   refine zBw ?_
   refine ret1 E rfl rfl ?_
   exact ⟨_, rfl, _, rfl, by rw [dotB_iff]; omega, S.tr⟩
theorem crune_ret (c : UInt8) (As : List zAl) (w0 : World) (H : Hp w0 As) :
  Ret Tryz.prog 91 #[str [46, 95, 45], .int .i32 c.toNat] w0 fun u w' => u = .bool (dotB c) ∧ Trs w0 w' As As := by
 have S := St.begin H
 refine zBt 9 Tryz.func91 rfl rfl dZ ?_; intro a E
 refine wp_seq_k ?_; intro K hK
 refine zAa ?_
 refine zd E ?_; clear E a; intro a E
 refine wpList_nil ?_
 refine zAb hK ?_; clear hK K
 refine wp_seq_k ?_; intro K hK
 refine zAa ?_
 iterate 2 (refine zd E ?_; clear E a; intro a E)
 refine zAh E rfl rfl dZ rfl Tryz.func114 rfl yZ rfl (irune_ret c _ _ S.hp) ?_
 rintro v7 w ⟨i, rfl, hi, hT⟩; clear E a; intro a E
 have S := S.all hT
 iterate 2 (refine zd E ?_; clear E a; intro a E)
 refine wpList_nil ?_
 refine zAb hK ?_; clear hK K
 refine wp_ret ?_
 refine ret1 E rfl rfl ?_
 exact ⟨_, rfl, by congr 1; rw [Bool.eq_iff_iff, decide_eq_true_eq]; exact hi, S.tr⟩
end Go.Proofs.YtbogecljkaimdaaGreatDoor
namespace Go.Proofs.YtbogecljkaimdaaGreatDoor
open Go.Sl
set_option maxRecDepth 10000
theorem zIb (l : List UInt8) (hl : l.length ≤ 140737488355328) (As : List zAl) (w0 : World) (H : Hp w0 As) :
  Ret Tryz.prog 48 #[str l] w0 fun u w' => u = .bool (zEw l) ∧ Trs w0 w' As As := by
 have S := St.begin H
 refine zCd 49 Tryz.func48 rfl rfl dZ ?_; intro a E
 refine wp_seq_k ?_; intro K hK
 refine zAa ?_
 refine zd E ?_; clear E a; intro a E
 refine wpList_nil ?_
 refine zAb hK ?_; clear hK K
 iterate 2 (refine wp_seq_k ?_; intro K hK)
 refine zAa ?_
 iterate 3 (refine zd E ?_; clear E a; intro a E)
 refine wpList_nil ?_
 refine zAb hK ?_; clear hK K
 refine wp_block ?_
 refine wp_loop_ghost (fun (m : Nat) (a : Act) (w' : World) => ∃ i : Nat, m = l.length - i ∧ i ≤ l.length ∧ (∀ k, ∀ hk : k < l.length, k < i → okAt l k hk) ∧ St w0 As w' As ∧ Fr a 49 [(0, str l), (7, .int .i64 l.length), (8, .int .i64 i)]) (l.length) ?_ ?_
 ·exact ⟨0, by omega, by omega, by intro k _ h; omega, S, E.keep (kE3 rfl rfl rfl)⟩
 clear E; clear a; (try clear S); rintro m a w ⟨i, rfl, hi, hok, S, E⟩
 refine wp_seq_k ?_; intro K hK
 refine zAa ?_
 refine zd E ?_; clear E a; intro a E
 refine wpList_nil ?_
 refine zAb hK ?_; clear hK K
 refine wp_seq_k ?_; intro K hK
 refine zAs E rfl (fun hb => ?_) (fun hb => ?_)
 ·replace hb := Nrm.nrm hb
  refine wp_skip ?_
  refine zAb hK ?_; clear hK K
  refine wp_seq_k ?_; intro K hK
  refine wp_block ?_
  refine wp_seq_k ?_; intro K hK
  have hil : i < l.length := by omega
  refine zAa ?_
  iterate 2 (refine zd E ?_; clear E a; intro a E)
  refine wpList_nil ?_
  refine zAb hK ?_; clear hK K
  refine wp_seq_k ?_; intro K hK
  refine zAa ?_
  iterate 2 (refine zd E ?_; clear E a; intro a E)
  refine zp E (zCi (l := l) (i := i) E rfl rfl rfl rfl rfl hil) ?_; clear E a; intro a E
  refine zd E ?_; clear E a; intro a E
  refine wpList_nil ?_
  refine zAb hK ?_; clear hK K
  refine wp_seq_k ?_; intro K hK
  obtain ⟨c, hc⟩ : ∃ c, c = l[i] := ⟨_, rfl⟩
  rw [← hc] at E
  refine zDd (fun (a : Act) (w' : World) => ∃ z, (z = true ↔ letB c = true) ∧ St w0 As w' As ∧ Fr a 49 [(0, str l), (3, .int .i64 i), (4, .int .u8 c.toNat), (5, .bool z), (7, .int .i64 l.length), (8, .int .i64 i)]) ?_ ?_
  ·skip
   refine zAa ?_
   iterate 3 (refine zd E ?_; clear E a; intro a E)
   refine zAj E (t := 16) rfl (fun hb16 => ?_) (fun hb16 => ?_)
   ·have hb16n := hb16; replace hb16n := Nrm.nrm hb16n
    iterate 2 (refine zyd E hb16 ?_; clear E a; intro a E)
    refine zp E (zAf E rfl rfl hb16 rfl) ?_; clear E a; intro a E
    refine zd E ?_; clear E a; intro a E
    refine zAj E (t := 20) rfl (fun hb20 => ?_) (fun hb20 => ?_)
    ·have hb20n := hb20; replace hb20n := Nrm.nrm hb20n
     iterate 3 (refine zn E hb20 ?_; clear E a; intro a E)
     iterate 2 (refine zu E ?_; clear E a; intro a E)
     refine zn E hb20 ?_; clear E a; intro a E
     refine zp E (zAf E rfl rfl hb20 rfl) ?_; clear E a; intro a E
     refine zd E ?_; clear E a; intro a E
     refine wpList_nil ?_
     refine zAk ?_
     exact ⟨_, by rw [zHa]; first | (simp only [decide_eq_true_eq]; omega) | (simp; omega) | omega, S, E.keep (kE6 rfl rfl rfl rfl rfl rfl)⟩
    ·have hb20n := hb20; replace hb20n := Nrm.nrm hb20n
     iterate 3 (refine zyd E hb20 ?_; clear E a; intro a E)
     refine zAj E (t := 23) rfl (fun hb23 => ?_) (fun hb23 => ?_)
     ·have hb23n := hb23; replace hb23n := Nrm.nrm hb23n
      iterate 2 (refine zyd E hb23 ?_; clear E a; intro a E)
      refine zy E hb20 (zAf E rfl rfl hb23 rfl) ?_; clear E a; intro a E
      refine zp E (zAe E rfl rfl hb20 rfl) ?_; clear E a; intro a E
      refine zd E ?_; clear E a; intro a E
      refine wpList_nil ?_
      refine zAk ?_
      exact ⟨_, by rw [zHa]; first | (simp only [decide_eq_true_eq]; omega) | (simp; omega) | omega, S, E.keep (kE6 rfl rfl rfl rfl rfl rfl)⟩
     ·have hb23n := hb23; replace hb23n := Nrm.nrm hb23n
      iterate 2 (refine zn E hb23 ?_; clear E a; intro a E)
      refine zy E hb20 (zAe E rfl rfl hb23 rfl) ?_; clear E a; intro a E
      refine zp E (zAe E rfl rfl hb20 rfl) ?_; clear E a; intro a E
      refine zd E ?_; clear E a; intro a E
      refine wpList_nil ?_
      refine zAk ?_
      exact ⟨_, by rw [zHa]; first | (simp only [decide_eq_true_eq]; omega) | (simp; omega) | omega, S, E.keep (kE6 rfl rfl rfl rfl rfl rfl)⟩
   ·have hb16n := hb16; replace hb16n := Nrm.nrm hb16n
    iterate 2 (refine zn E hb16 ?_; clear E a; intro a E)
    refine zp E (zAe E rfl rfl hb16 rfl) ?_; clear E a; intro a E
    refine zd E ?_; clear E a; intro a E
    iterate 3 (refine zyd E rfl ?_; clear E a; intro a E)
    refine zAj E (t := 23) rfl (fun hb23 => ?_) (fun hb23 => ?_)
    ·have hb23n := hb23; replace hb23n := Nrm.nrm hb23n
     iterate 2 (refine zyd E hb23 ?_; clear E a; intro a E)
     refine zy E rfl (zAf E rfl rfl hb23 rfl) ?_; clear E a; intro a E
     refine zp E (zAe E rfl rfl rfl rfl) ?_; clear E a; intro a E
     refine zd E ?_; clear E a; intro a E
     refine wpList_nil ?_
     refine zAk ?_
     exact ⟨_, by rw [zHa]; first | (simp only [decide_eq_true_eq]; omega) | (simp; omega) | omega, S, E.keep (kE6 rfl rfl rfl rfl rfl rfl)⟩
    ·have hb23n := hb23; replace hb23n := Nrm.nrm hb23n
     iterate 2 (refine zn E hb23 ?_; clear E a; intro a E)
     refine zy E rfl (zAe E rfl rfl hb23 rfl) ?_; clear E a; intro a E
     refine zp E (zAe E rfl rfl rfl rfl) ?_; clear E a; intro a E
     refine zd E ?_; clear E a; intro a E
     refine wpList_nil ?_
     refine zAk ?_
     exact ⟨_, by rw [zHa]; first | (simp only [decide_eq_true_eq]; omega) | (simp; omega) | omega, S, E.keep (kE6 rfl rfl rfl rfl rfl rfl)⟩
  ·clear E S a; intro a w J; obtain ⟨z, hz, S, E⟩ := J
   obtain rfl : z = letB c := (by rw [Bool.eq_iff_iff]; exact hz)
   refine zAb hK ?_; clear hK K
   refine wp_seq_k ?_; intro K hK
   refine zAa ?_
   iterate 3 (refine zd E ?_; clear E a; intro a E)
   refine zAj E (t := 30) rfl (fun hb30 => ?_) (fun hb30 => ?_)
   ·have hb30n := hb30; replace hb30n := Nrm.nrm hb30n
    iterate 3 (refine zyd E hb30 ?_; clear E a; intro a E)
    refine zAj E (t := 33) rfl (fun hb33 => ?_) (fun hb33 => ?_)
    ·have hb33n := hb33; replace hb33n := Nrm.nrm hb33n
     iterate 4 (refine zn E hb33 ?_; clear E a; intro a E)
     refine zy E hb30 (zAf E rfl rfl hb33 rfl) ?_; clear E a; intro a E
     refine zp E (zAf E rfl rfl hb30 rfl) ?_; clear E a; intro a E
     refine wpList_nil ?_
     refine zAb hK ?_; clear hK K
     refine zBo E rfl rfl ?_
     refine wp_seq_k ?_; intro K hK
     refine zAa ?_
     refine zd E ?_; clear E a; intro a E
     refine wpList_nil ?_
     refine zAb hK ?_; clear hK K
     refine wp_ret ?_
     refine zBw ?_
     refine zAn ?_; clear hK K
     refine zAn ?_
     refine zBw ?_
     refine zAn ?_; clear hK K
     refine ret1 E rfl rfl ?_
     exact ⟨_, rfl, by congr 1; exact (part_no hil (by rw [← hc]; simpa using hb30) (by rw [← hc]; first | exact .inl oZ | exact .inr (by simpa using hb))).symm, S.tr⟩
    ·have hb33n := hb33; replace hb33n := Nrm.nrm hb33n
     refine zyd E hb33 ?_; clear E a; intro a E
     refine zy E hb33 (zAo E rfl rfl rfl rfl (w32c _)) ?_; clear E a; intro a E
     refine zBk E rfl rfl rfl rfl hb33 ?_; refine zBy E rfl dZ rfl Tryz.func91 rfl yZ rfl (crune_ret c _ _ S.hp) ?_
     rintro v36 w ⟨rfl, hT⟩; clear E a; intro a E
     have S := S.all hT
     refine zyd E hb33 ?_; clear E a; intro a E
     refine zy E hb30 (zAe E rfl rfl hb33 rfl) ?_; clear E a; intro a E
     refine zp E (zAf E rfl rfl hb30 rfl) ?_; clear E a; intro a E
     refine wpList_nil ?_
     refine zAb hK ?_; clear hK K
     refine zAs E rfl (fun hb => ?_) (fun hb => ?_)
     ·replace hb := Nrm.nrm hb
      refine wp_seq_k ?_; intro K hK
      refine zAa ?_
      refine zd E ?_; clear E a; intro a E
      refine wpList_nil ?_
      refine zAb hK ?_; clear hK K
      refine wp_ret ?_
      refine zBw ?_
      refine zAn ?_; clear hK K
      refine zAn ?_
      refine zBw ?_
      refine zAn ?_; clear hK K
      refine ret1 E rfl rfl ?_
      exact ⟨_, rfl, by congr 1; exact (part_no hil (by rw [← hc]; simpa using hb30) (by rw [← hc]; first | exact .inl oZ | exact .inr (by simpa using hb))).symm, S.tr⟩
     ·replace hb := Nrm.nrm hb
      refine wp_skip ?_
      refine zAr ?_
      refine zAb hK ?_; clear hK K
      refine zAa ?_
      refine zp E (zBc E rfl rfl rfl (by first | exact zBq (y := 1) oZ | exact w_in oZ | exact zBb oZ | exact rfl)) ?_; clear E a; intro a E
      refine zd E ?_; clear E a; intro a E
      refine wpList_nil ?_
      refine zAy ?_
      exact ⟨_, by omega, i + 1, rfl, by omega, ok_more hok hil (by show letB l[i] = true ∨ _; rw [← hc]; first | exact .inl (by simpa using hb30) | exact .inr ⟨by omega, by simpa using hb⟩), S, E.keep (kE3 rfl rfl rfl)⟩
   ·have hb30n := hb30; replace hb30n := Nrm.nrm hb30n
    iterate 3 (refine zn E hb30 ?_; clear E a; intro a E)
    iterate 4 (refine zu E ?_; clear E a; intro a E)
    refine zn E hb30 ?_; clear E a; intro a E
    refine zp E (zAe E rfl rfl hb30 rfl) ?_; clear E a; intro a E
    refine wpList_nil ?_
    refine zAb hK ?_; clear hK K
    refine zCq E rfl rfl ?_
    refine wp_skip ?_
    refine zAr ?_
    refine zAb hK ?_; clear hK K
    refine zAa ?_
    refine zp E (zBc E rfl rfl rfl (by first | exact zBq (y := 1) oZ | exact w_in oZ | exact zBb oZ | exact rfl)) ?_; clear E a; intro a E
    refine zd E ?_; clear E a; intro a E
    refine wpList_nil ?_
    refine zAy ?_
    exact ⟨_, by omega, i + 1, rfl, by omega, ok_more hok hil (by show letB l[i] = true ∨ _; rw [← hc]; first | exact .inl (by simpa using hb30) | exact .inr ⟨by omega, by simpa using hb⟩), S, E.keep (kE3 rfl rfl rfl)⟩
 ·replace hb := Nrm.nrm hb
  refine wp_exit ?_
  refine zAp ?_; clear hK K
  refine zAp ?_
  refine zBr ?_
  refine zAb hK ?_; clear hK K
  refine wp_seq_k ?_; intro K hK
  refine zAa ?_
  iterate 4 (refine zd E ?_; clear E a; intro a E)
  refine zAj E (t := 44) rfl (fun hb44 => ?_) (fun hb44 => ?_)
  ·have hb44n := hb44; replace hb44n := Nrm.nrm hb44n
   iterate 3 (refine zyd E hb44 ?_; clear E a; intro a E)
   refine zp E (zAf E rfl rfl hb44 rfl) ?_; clear E a; intro a E
   refine zd E ?_; clear E a; intro a E
   refine wpList_nil ?_
   refine zAb hK ?_; clear hK K
   refine wp_ret ?_
   refine ret1 E rfl rfl ?_
   exact ⟨_, rfl, by congr 1; rw [Bool.eq_iff_iff, part_end (fun k hk => hok k hk oZ)]; simp; omega, S.tr⟩
  ·have hb44n := hb44; replace hb44n := Nrm.nrm hb44n
   iterate 3 (refine zn E hb44 ?_; clear E a; intro a E)
   refine zp E (zAe E rfl rfl hb44 rfl) ?_; clear E a; intro a E
   refine zd E ?_; clear E a; intro a E
   refine wpList_nil ?_
   refine zAb hK ?_; clear hK K
   refine wp_ret ?_
   refine ret1 E rfl rfl ?_
   exact ⟨_, rfl, by congr 1; rw [Bool.eq_iff_iff, part_end (fun k hk => hok k hk oZ)]; simp; omega, S.tr⟩
theorem scount_ret (l : List UInt8) (c : UInt8) (As : List zAl) (w0 : World) (H : Hp w0 As) :
  Ret Tryz.prog 139 #[str l, str [c]] w0 fun u w' => u = .int .i64 (l.count c : Nat) ∧ Trs w0 w' As As := by
 have S := St.begin H
 refine zBt 34 Tryz.func139 rfl rfl dZ ?_; intro a E
 refine wp_seq_k ?_; intro K hK
 refine zAa ?_
 refine zd E ?_; clear E a; intro a E
 refine wpList_nil ?_
 refine zAb hK ?_; clear hK K
 iterate 2 (refine wp_seq_k ?_; intro K hK)
 refine zAa ?_
 iterate 3 (refine zd E ?_; clear E a; intro a E)
 refine wpList_nil ?_
 refine zAb hK ?_; clear hK K
 refine zCq E rfl ((by rfl)) ?_
 refine wp_skip ?_
 refine zAb hK ?_; clear hK K
 iterate 2 (refine wp_seq_k ?_; intro K hK)
 refine zAa ?_
 iterate 3 (refine zd E ?_; clear E a; intro a E)
 refine wpList_nil ?_
 refine zAb hK ?_; clear hK K
 refine zBo E rfl ((by rfl)) ?_
 refine wp_seq_k ?_; intro K hK
 refine zAa ?_
 iterate 2 (refine zd E ?_; clear E a; intro a E)
 refine zp E (zCi (l := [c]) (i := 0) E rfl rfl rfl rfl rfl (Nat.le_of_ble_eq_true rfl)) ?_; clear E a; intro a E
 refine zAg rfl (zGe E (rn_cbyte (l := l) (c := c) E rfl Tryz.func144 yZ yZ yZ yZ rfl rfl) rfl dZ ?_); clear E a; intro a E
 refine zd E ?_; clear E a; intro a E
 refine wpList_nil ?_
 refine zAb hK ?_; clear hK K
 refine wp_ret ?_
 refine zAn ?_; clear hK K
 refine ret1 E rfl rfl ?_
 exact ⟨_, rfl, rfl, S.tr⟩
theorem strs_set (dn : List (List UInt8)) (n i : Nat) (p : List UInt8) (h : dn.length = i) (hi : i < n) :
  (dn.map str ++ List.replicate (n - i) (str [])).set i (str p) = (dn ++ [p]).map str ++ List.replicate (n - (i + 1)) (str []) := by
 subst h
 rw [List.set_append_right _ _ (by simp), show n - dn.length = (n - (dn.length + 1)) + 1 by omega, List.replicate_succ]
 simp
theorem slindex_ret (l : List UInt8) (c : UInt8) (As : List zAl) (w0 : World) (H : Hp w0 As) :
  Ret Tryz.prog 145 #[str l, str [c]] w0 fun u w' => u = .int .i64 (Lib.indexByte l c) ∧ Trs w0 w' As As := by
 have S := St.begin H
 refine zBt 143 Tryz.func145 rfl rfl dZ ?_; intro a E
 refine wp_seq_k ?_; intro K hK
 refine zAa ?_
 refine zd E ?_; clear E a; intro a E
 refine wpList_nil ?_
 refine zAb hK ?_; clear hK K
 refine wp_seq_k ?_; intro K hK
 refine zAa ?_
 iterate 3 (refine zd E ?_; clear E a; intro a E)
 refine wpList_nil ?_
 refine zAb hK ?_; clear hK K
 refine wp_seq_k ?_; intro K hK
 refine wp_block ?_
 refine wp_seq_k ?_; intro K hK
 refine zAa ?_
 iterate 3 (refine zd E ?_; clear E a; intro a E)
 refine zJn E (t := 19) rfl ((by rfl)) (fun hb19 => ?_)
 iterate 3 (refine zyd E hb19 ?_; clear E a; intro a E)
 refine zp E (zAe E rfl rfl hb19 rfl) ?_; clear E a; intro a E
 refine zd E ?_; clear E a; intro a E
 refine wpList_nil ?_
 refine zAb hK ?_; clear hK K
 refine zAs E rfl (fun hb => ?_) (fun hb => ?_)
 ·replace hb := Nrm.nrm hb
  refine wp_seq_k ?_; intro K hK
  refine zAa ?_
  refine zd E ?_; clear E a; intro a E
  refine wpList_nil ?_
  refine zAb hK ?_; clear hK K
  refine wp_ret ?_
  refine zBw ?_
  refine zAn ?_; clear hK K
  refine ret1 E rfl rfl ?_
  exact ⟨_, rfl, by rw [← hb]; simp [Lib.indexByte], S.tr⟩
 ·replace hb := Nrm.nrm hb
  refine wp_seq_k ?_; intro K hK
  refine zAa ?_
  iterate 3 (refine zd E ?_; clear E a; intro a E)
  refine wpList_nil ?_
  refine zAb hK ?_; clear hK K
  refine zBo E rfl ((by rfl)) ?_
  refine wp_seq_k ?_; intro K hK
  refine zAa ?_
  iterate 2 (refine zd E ?_; clear E a; intro a E)
  refine zp E (zCi (l := [c]) (i := 0) E rfl rfl rfl rfl rfl (Nat.le_of_ble_eq_true rfl)) ?_; clear E a; intro a E
  refine zAh E rfl rfl dZ rfl Tryz.func131 rfl yZ rfl (zJw l c _ _ S.hp) ?_
  rintro v30 w ⟨rfl, hT⟩; clear E a; intro a E
  have S := S.all hT
  refine zd E ?_; clear E a; intro a E
  refine wpList_nil ?_
  refine zAb hK ?_; clear hK K
  refine wp_ret ?_
  refine zBw ?_
  refine zAn ?_; clear hK K
  refine ret1 E rfl rfl ?_
  exact ⟨_, rfl, rfl, S.tr⟩
theorem sindex_ret (l : List UInt8) (c : UInt8) (As : List zAl) (w0 : World) (H : Hp w0 As) :
  Ret Tryz.prog 140 #[str l, str [c]] w0 fun u w' => u = .int .i64 (Lib.indexByte l c) ∧ Trs w0 w' As As := by
 have S := St.begin H
 refine zBt 8 Tryz.func140 rfl rfl dZ ?_; intro a E
 refine wp_seq_k ?_; intro K hK
 refine zAa ?_
 refine zd E ?_; clear E a; intro a E
 refine wpList_nil ?_
 refine zAb hK ?_; clear hK K
 refine wp_seq_k ?_; intro K hK
 refine zAa ?_
 iterate 2 (refine zd E ?_; clear E a; intro a E)
 refine zAh E rfl rfl dZ rfl Tryz.func145 rfl yZ rfl (slindex_ret l c _ _ S.hp) ?_
 rintro v7 w ⟨rfl, hT⟩; clear E a; intro a E
 have S := S.all hT
 refine zd E ?_; clear E a; intro a E
 refine wpList_nil ?_
 refine zAb hK ?_; clear hK K
 refine wp_ret ?_
 refine ret1 E rfl rfl ?_
 exact ⟨_, rfl, rfl, S.tr⟩
theorem gensplit_ret (l : List UInt8) (hl : l.length ≤ 1100000) (As : List zAl) (w0 : World) (H : Hp w0 As) :
  Ret Tryz.prog 132 #[str l, str [47], .int .i64 0, .int .i64 (-1)] w0 fun u w' => ∃ g, u = .slice (some ⟨g, 0, none⟩) (zCp l).length (zCp l).length ∧ Trs w0 w' As ([(g, cel ((zCp l).map str) 9)] :: As) := by
 have S := St.begin H
 have hcl : l.count 47 ≤ l.length := List.count_le_length
 have hpl := zEv l
 obtain ⟨n, hn⟩ : ∃ n, n = l.count 47 + 1 := ⟨_, rfl⟩
 refine enter4 66 Tryz.func132 rfl rfl dZ ?_; intro a E
 refine wp_seq_k ?_; intro K hK
 refine zAa ?_
 refine zd E ?_; clear E a; intro a E
 refine wpList_nil ?_
 refine zAb hK ?_; clear hK K
 iterate 2 (refine wp_seq_k ?_; intro K hK)
 refine zAa ?_
 iterate 2 (refine zd E ?_; clear E a; intro a E)
 refine wpList_nil ?_
 refine zAb hK ?_; clear hK K
 refine zCq E rfl ((by rfl)) ?_
 refine wp_skip ?_
 refine zAb hK ?_; clear hK K
 iterate 2 (refine wp_seq_k ?_; intro K hK)
 refine zAa ?_
 iterate 2 (refine zd E ?_; clear E a; intro a E)
 refine wpList_nil ?_
 refine zAb hK ?_; clear hK K
 refine zCq E rfl ((by rfl)) ?_
 refine wp_skip ?_
 refine zAb hK ?_; clear hK K
 iterate 2 (refine wp_seq_k ?_; intro K hK)
 refine zAa ?_
 iterate 2 (refine zd E ?_; clear E a; intro a E)
 refine wpList_nil ?_
 refine zAb hK ?_; clear hK K
 refine zBo E rfl ((by rfl)) ?_
 refine zAa ?_
 iterate 2 (refine zd E ?_; clear E a; intro a E)
 refine zAh E rfl rfl dZ rfl Tryz.func139 rfl yZ rfl (scount_ret l 47 _ _ S.hp) ?_
 rintro v23 w ⟨rfl, hT⟩; clear E a; intro a E
 have S := S.all hT
 refine zp E (zBc E rfl rfl rfl (by first | exact zBq (y := 1) oZ | exact w_in oZ | exact zBb oZ | exact rfl)) ?_; clear E a; intro a E
 refine zd E ?_; clear E a; intro a E
 refine wpList_nil ?_
 refine zAb hK ?_; clear hK K
 refine wp_seq_k ?_; intro K hK
 refine zAa ?_
 iterate 3 (refine zd E ?_; clear E a; intro a E)
 refine zp E (zBc E rfl rfl rfl (by first | exact zBq (y := 1) oZ | exact w_in oZ | exact zBb oZ | exact rfl)) ?_; clear E a; intro a E
 refine zp E (rn_min E rfl rfl rfl) ?_; clear E a; intro a E
 rw [show min (((l.count 47 + 1 : Nat) : Int)) (((l.length + 1 : Nat) : Int)) = (n : Int) by omega] at E
 refine zd E ?_; clear E a; intro a E
 refine wpList_nil ?_
 refine zAb hK ?_; clear hK K
 refine wp_seq_k ?_; intro K hK
 refine zAa ?_
 refine zd E ?_; clear E a; intro a E
 refine zAg rfl (zJa (by' := 16) E S rfl rfl dZ rfl rfl rfl rfl rfl rfl rfl rfl rfl rfl rfl (show 16 * n ≤ _ by omega) (by simp only [maxLen]; omega) ?_); clear E S a; intro a w g31 E S
 refine zd E ?_; clear E a; intro a E
 refine wpList_nil ?_
 refine zAb hK ?_; clear hK K
 refine wp_seq_k ?_; intro K hK
 replace E := E.keep (e' := [(0, _), (1, _), (2, _), (3, _), (8, _), (9, _)]) (kE6 rfl rfl rfl rfl rfl rfl)
 have h1n : 1 ≤ n := by omega
 refine zAa ?_
 refine zd E ?_; clear E a; intro a E
 refine zp E (zCv E rfl rfl rfl (by first | exact zFc (y := 1) oZ oZ | exact w_in oZ | exact zBb oZ | exact rfl)) ?_; clear E a; intro a E
 refine zd E ?_; clear E a; intro a E
 refine wpList_nil ?_
 refine zAb hK ?_; clear hK K
 refine wp_seq_k ?_; intro K hK
 refine zAa ?_
 refine zd E ?_; clear E a; intro a E
 refine wpList_nil ?_
 refine zAb hK ?_; clear hK K
 refine wp_seq_k ?_; intro K hK
 refine wp_block ?_
 refine wp_loop_ghost (fun (m : Nat) (a : Act) (w' : World) => ∃ (i : Nat) (cur : List UInt8) (dn : List (List UInt8)), m = n - i ∧ i + 1 ≤ n ∧ dn.length = i ∧ dn ++ zCp cur = zCp l ∧ cur.length ≤ l.length ∧ St w0 As w' ([(g31, cel (dn.map str ++ List.replicate (n - i) (str [])) 9)] :: As) ∧ Fr a 66 [(0, str cur), (1, str [47]), (2, .int .i64 0), (3, .int .i64 ((n - 1 : Nat) : Int)), (9, .slice (some ⟨g31, 0, none⟩) n n), (10, .int .i64 i)]) (n) ?_ ?_
 ·exact ⟨0, l, [], by omega, by omega, rfl, rfl, by omega, S, E.keep (kE6 rfl rfl rfl rfl rfl rfl)⟩
 clear E; clear a; (try clear S); rintro m a w ⟨i, cur, dn, rfl, hi, hdn, hpc, hcur, S, E⟩
 iterate 2 (refine wp_seq_k ?_; intro K hK)
 refine zAa ?_
 iterate 3 (refine zd E ?_; clear E a; intro a E)
 refine wpList_nil ?_
 refine zAb hK ?_; clear hK K
 refine zAs E rfl (fun hb => ?_) (fun hb => ?_)
 ·replace hb := Nrm.nrm hb
  refine wp_skip ?_
  refine zAb hK ?_; clear hK K
  refine wp_block ?_
  refine wp_seq_k ?_; intro K hK
  refine zAa ?_
  iterate 2 (refine zd E ?_; clear E a; intro a E)
  refine zAh E rfl rfl dZ rfl Tryz.func140 rfl yZ rfl (sindex_ret cur 47 _ _ S.hp) ?_
  rintro v39 w ⟨rfl, hT⟩; clear E a; intro a E
  have S := S.all hT
  refine zd E ?_; clear E a; intro a E
  refine wpList_nil ?_
  refine zAb hK ?_; clear hK K
  iterate 2 (refine wp_seq_k ?_; intro K hK)
  have hin : i < n - 1 := by omega
  have hcc := zEv cur
  have hall : dn.length + (zCp cur).length = n := by rw [← List.length_append, hpc]; omega
  obtain ⟨mm, hm, he, hat, h0, h1⟩ := (ibyte_cases cur 47).resolve_left (fun q => by omega)
  rw [he] at E
  refine zAa ?_
  iterate 2 (refine zd E ?_; clear E a; intro a E)
  refine wpList_nil ?_
  refine zAb hK ?_; clear hK K
  refine zCq E rfl ((by simp)) ?_
  refine wp_skip ?_
  refine zAb hK ?_; clear hK K
  refine wp_seq_k ?_; intro K hK
  refine zAa ?_
  iterate 5 (refine zd E ?_; clear E a; intro a E)
  refine zp E (zBc E rfl rfl rfl (by first | exact wa1 oZ | exact w_in oZ | exact zBb oZ | exact rfl)) ?_; clear E a; intro a E
  refine zp E (rn_str_h (l := cur) (hi := mm) E rfl rfl rfl rfl rfl oZ) ?_; clear E a; intro a E
  refine zp E (by first | exact zAw E rfl rfl rfl rfl rfl rfl oZ | exact zBe E rfl rfl rfl rfl rfl rfl oZ | exact zAu E rfl rfl rfl rfl rfl rfl oZ) ?_; clear E a; intro a E
  refine zAg rfl (zAv E S rfl rfl rfl rfl rfl rfl pZ (by simp; omega) ?_); clear E S a; intro a w E S; try dsimp only [List.set] at S
  refine wpList_nil ?_
  refine zAb hK ?_; clear hK K
  refine wp_seq_k ?_; intro K hK
  refine zAa ?_
  iterate 4 (refine zd E ?_; clear E a; intro a E)
  refine zp E (zBc E rfl rfl rfl (wa1 (by simp; omega))) ?_; clear E a; intro a E
  refine zp E (zLm (l := cur) (lo := mm + 1) E rfl rfl rfl rfl rfl oZ) ?_; clear E a; intro a E
  refine zd E ?_; clear E a; intro a E
  refine wpList_nil ?_
  refine zAb hK ?_; clear hK K
  refine zAa ?_
  refine zd E ?_; clear E a; intro a E
  refine zp E (zBc E rfl rfl rfl (by first | exact zBq (y := 1) oZ | exact w_in oZ | exact zBb oZ | exact rfl)) ?_; clear E a; intro a E
  refine zd E ?_; clear E a; intro a E
  refine wpList_nil ?_
  refine zAr ?_
  refine zAy ?_
  rw [Nat.zero_add] at S
  rw [strs_set dn n i _ hdn oZ] at S
  exact ⟨_, by omega, i + 1, cur.drop (mm + 1), dn ++ [cur.take mm], rfl, by omega, by simp [hdn], by rw [List.append_assoc, ← hpc, zIk hm hat h0]; rfl, by rw [List.length_drop]; omega, S, E.keep (kE6 rfl rfl rfl rfl rfl rfl)⟩
 ·replace hb := Nrm.nrm hb
  refine wp_exit ?_
  refine zAp ?_; clear hK K
  refine zAp ?_
  refine zBr ?_
  refine zAb hK ?_; clear hK K
  refine wp_seq_k ?_; intro K hK
  have hin : n = i + 1 := by omega
  have hcc := zEv cur
  have hall : dn.length + (zCp cur).length = n := by rw [← List.length_append, hpc]; omega
  have h1 := zJv (l := cur) oZ
  refine zAa ?_
  iterate 3 (refine zd E ?_; clear E a; intro a E)
  refine zp E (by first | exact zAw E rfl rfl rfl rfl rfl rfl oZ | exact zBe E rfl rfl rfl rfl rfl rfl oZ | exact zAu E rfl rfl rfl rfl rfl rfl oZ) ?_; clear E a; intro a E
  refine zAg rfl (zAv E S rfl rfl rfl rfl rfl rfl pZ (by simp; omega) ?_); clear E S a; intro a w E S; try dsimp only [List.set] at S
  refine wpList_nil ?_
  refine zAb hK ?_; clear hK K
  refine wp_seq_k ?_; intro K hK
  refine zAa ?_
  iterate 2 (refine zd E ?_; clear E a; intro a E)
  refine zp E (zBc E rfl rfl rfl (by first | exact zBq (y := 1) oZ | exact w_in oZ | exact zBb oZ | exact rfl)) ?_; clear E a; intro a E
  refine zp E (zEy (s := 1) E rfl rfl rfl rfl rfl rfl oZ) ?_; clear E a; intro a E
  refine zd E ?_; clear E a; intro a E
  refine wpList_nil ?_
  refine zAb hK ?_; clear hK K
  refine wp_ret ?_
  refine ret1 E rfl rfl ?_
  rw [Nat.zero_add] at S
  rw [strs_set dn n i _ hdn oZ] at S
  rw [show n - (i + 1) = 0 by omega, List.replicate_zero, List.append_nil] at S
  rw [h1] at hpc
  rw [← hpc]
  exact ⟨_, rfl, g31, by simp [hdn, hin, sliced, Addr.add_lit], S.tr⟩
theorem split_ret (l : List UInt8) (hl : l.length ≤ 1100000) (As : List zAl) (w0 : World) (H : Hp w0 As) :
  Ret Tryz.prog 126 #[str l, str [47]] w0 fun u w' => ∃ g, u = .slice (some ⟨g, 0, none⟩) (zCp l).length (zCp l).length ∧ Trs w0 w' As ([(g, cel ((zCp l).map str) 9)] :: As) := by
 have S := St.begin H
 refine zBt 8 Tryz.func126 rfl rfl dZ ?_; intro a E
 refine wp_seq_k ?_; intro K hK
 refine zAa ?_
 refine zd E ?_; clear E a; intro a E
 refine wpList_nil ?_
 refine zAb hK ?_; clear hK K
 refine wp_seq_k ?_; intro K hK
 refine zAa ?_
 iterate 2 (refine zd E ?_; clear E a; intro a E)
 refine zAh E rfl rfl dZ rfl Tryz.func132 rfl yZ rfl (gensplit_ret l hl _ _ S.hp) ?_
 rintro v7 w ⟨g, rfl, hT⟩; clear E a; intro a E
 have S := S.all hT
 refine zd E ?_; clear E a; intro a E
 refine wpList_nil ?_
 refine zAb hK ?_; clear hK K
 refine wp_ret ?_
 refine ret1 E rfl rfl ?_
 exact ⟨_, rfl, g, rfl, S.tr⟩
end Go.Proofs.YtbogecljkaimdaaGreatDoor
namespace Go.Sl
theorem valP_more {l : List UInt8} {i : Nat} (h : ∀ k, ∀ hk : k < l.length, k < i → 32 ≤ l[k].toNat ∧ l[k].toNat ≤ 126) (hi : i < l.length) (h1 : 32 ≤ l[i].toNat ∧ l[i].toNat ≤ 126) : ∀ k, ∀ hk : k < l.length, k < i + 1 → 32 ≤ l[k].toNat ∧ l[k].toNat ≤ 126 := by
 intro k hk hki
 by_cases e : k = i
 ·subst e; exact h1
 ·exact h k hk oZ
theorem blk_str {b : Nat} {ps : List (List UInt8)} {T : TypeId} {w : World} (hb : w.heap[b]? = some (cel (ps.map str) T)) {i : Nat} (h : i < ps.length) : w.cell? ⟨b, i, none⟩ = some (str ps[i]) :=
 zCf hb (by simp [h])
end Go.Sl
namespace Go.Proofs.YtbogecljkaimdaaGreatDoor
open Go.Sl
set_option maxRecDepth 10000
theorem vsign_ret (c : Nat) (As : List zAl) (w0 : World) (H : Hp w0 As) :
  Ret Tryz.prog 135 #[.int .i32 c] w0 fun u w' => ∃ z, u = .bool z ∧ (z = true ↔ c < 32 ∨ 126 < c) ∧ Trs w0 w' As As := by
 have S := St.begin H
 refine zCd 9 Tryz.func135 rfl rfl dZ ?_; intro a E
 refine wp_seq_k ?_; intro K hK
 refine zAa ?_
 refine zd E ?_; clear E a; intro a E
 refine wpList_nil ?_
 refine zAb hK ?_; clear hK K
 refine wp_seq_k ?_; intro K hK
 refine zAa ?_
 iterate 3 (refine zd E ?_; clear E a; intro a E)
 refine zAj E (t := 5) rfl (fun hb5 => ?_) (fun hb5 => ?_)
 ·have hb5n := hb5; replace hb5n := Nrm.nrm hb5n
  iterate 2 (refine zn E hb5 ?_; clear E a; intro a E)
  refine zp E (zAf E rfl rfl hb5 rfl) ?_; clear E a; intro a E
  refine zd E ?_; clear E a; intro a E
  refine wpList_nil ?_
  refine zAb hK ?_; clear hK K
  refine wp_ret ?_
  refine ret1 E rfl rfl ?_
  exact ⟨_, rfl, _, rfl, by first | (simp only [decide_eq_true_eq]; omega) | (simp; omega), S.tr⟩
 ·have hb5n := hb5; replace hb5n := Nrm.nrm hb5n
  iterate 2 (refine zyd E hb5 ?_; clear E a; intro a E)
  refine zp E (zAe E rfl rfl hb5 rfl) ?_; clear E a; intro a E
  refine zd E ?_; clear E a; intro a E
  refine wpList_nil ?_
  refine zAb hK ?_; clear hK K
  refine wp_ret ?_
  refine ret1 E rfl rfl ?_
  exact ⟨_, rfl, _, rfl, by first | (simp only [decide_eq_true_eq]; omega) | (simp; omega), S.tr⟩
theorem ifunc_ret (l : List UInt8) (hl : l.length ≤ 140737488355328) (As : List zAl) (w0 : World) (H : Hp w0 As) :
  Ret Tryz.prog 146 #[str l, .func (.func 135) #[] #[], .bool true] w0 fun u w' => ∃ i : Int, u = .int .i64 i ∧ (0 ≤ i ↔ ¬ valP l) ∧ Trs w0 w' As As := by
 have S := St.begin H
 refine zEz 21 Tryz.func146 rfl rfl dZ ?_; intro a E
 refine wp_seq_k ?_; intro K hK
 refine zAa ?_
 refine zd E ?_; clear E a; intro a E
 refine wpList_nil ?_
 refine zAb hK ?_; clear hK K
 iterate 2 (refine wp_seq_k ?_; intro K hK)
 refine zAa ?_
 refine zd E ?_; clear E a; intro a E
 refine zAg rfl (wp_rangeS E S rfl rfl dZ rfl rfl ?_); clear E S a; intro a w b10 E S
 refine wpList_nil ?_
 refine zAb hK ?_; clear hK K
 refine wp_block ?_
 refine wp_loop_ghost (fun (m : Nat) (a : Act) (w' : World) => ∃ i : Nat, m = l.length - i ∧ i ≤ l.length ∧ (∀ k, ∀ hk : k < l.length, k < i → 32 ≤ l[k].toNat ∧ l[k].toNat ≤ 126) ∧ St w0 As w' ([(b10, .stringIter ⟨l.toArray⟩ i)] :: As) ∧ Fr a 21 [(0, str l), (1, .func (.func 135) #[] #[]), (2, .bool true), (10, ptr b10)]) (l.length) ?_ ?_
 ·exact ⟨0, by omega, by omega, by intro k _ h; omega, S, E.keep (kE4 rfl rfl rfl rfl)⟩
 clear E; clear a; (try clear S); rintro m a w ⟨i, rfl, hi, hok, S, E⟩
 refine wp_seq_k ?_; intro K hK
 refine zAa ?_
 rcases Nat.lt_or_ge i l.length with hil | hil
 ·skip
  obtain ⟨rr, wd, hdec⟩ : ∃ rr wd, Utf8.decode ⟨l.toArray⟩ i = (rr, wd) := ⟨_, _, rfl⟩
  refine zAg rfl (wp_nextS E S rfl rfl dZ rfl pZ oZ ?_); clear E S a; intro a w E S
  rw [hdec] at E S; dsimp only at E S
  refine zd E ?_; clear E a; intro a E
  refine wpList_nil ?_
  refine zAb hK ?_; clear hK K
  refine wp_seq_k ?_; intro K hK
  refine zBo E rfl ((by rfl)) ?_
  refine wp_skip ?_
  refine zAb hK ?_; clear hK K
  refine wp_block ?_
  refine wp_seq_k ?_; intro K hK
  refine zAa ?_
  iterate 4 (refine zd E ?_; clear E a; intro a E)
  refine wpList_nil ?_
  refine zAb hK ?_; clear hK K
  refine wp_seq_k ?_; intro K hK
  refine zAa ?_
  iterate 2 (refine zd E ?_; clear E a; intro a E)
  refine zCh E rfl rfl dZ rfl rfl Tryz.func135 rfl yZ rfl (vsign_ret rr _ _ S.hp) ?_
  rintro v17 w ⟨z, rfl, hz, hT⟩; clear E a; intro a E
  have S := S.all hT
  iterate 2 (refine zd E ?_; clear E a; intro a E)
  refine wpList_nil ?_
  refine zAb hK ?_; clear hK K
  refine zAs E rfl (fun hb => ?_) (fun hb => ?_)
  ·replace hb := Nrm.nrm hb
   refine wp_seq_k ?_; intro K hK
   refine zAa ?_
   iterate 2 (refine zd E ?_; clear E a; intro a E)
   refine wpList_nil ?_
   refine zAb hK ?_; clear hK K
   refine wp_ret ?_
   refine zBw ?_
   refine zAn ?_
   refine zBw ?_
   refine zAn ?_; clear hK K
   refine ret1 E rfl rfl ?_
   exact ⟨_, rfl, _, rfl, by
    refine ⟨fun _ hv => ?_, fun _ => by omega⟩
    have hv := hv i hil
    have h1 := zIv hil oZ
    rw [hdec] at h1
    have h2 := hz.1 (by simpa using hb)
    cases h1
    omega, S.tail.tr⟩
  ·replace hb := Nrm.nrm hb
   refine wp_skip ?_
   refine zAr ?_
   refine zAy ?_
   have hz2 : ¬ (rr < 32 ∨ 126 < rr) := fun q => by have := hz.2 q; simp [this] at hb
   have hs : l[i].toNat < 128 := by
    refine Nat.lt_of_not_le fun q => ?_
    have := decode_big hil q
    rw [hdec] at this
    simp only at this
    omega
   have h1 := zIv hil hs
   rw [hdec] at h1
   cases h1
   exact ⟨_, by omega, i + 1, rfl, by omega, valP_more hok hil oZ, S, E.keep (kE4 rfl rfl rfl rfl)⟩
 ·skip
  refine zAg rfl (wp_nextS_end E S rfl rfl dZ rfl pZ oZ ?_); clear E a; intro a E
  refine zd E ?_; clear E a; intro a E
  refine wpList_nil ?_
  refine zAb hK ?_; clear hK K
  refine wp_seq_k ?_; intro K hK
  refine zCq E rfl ((by rfl)) ?_
  refine wp_exit ?_
  refine zAp ?_; clear hK K
  refine zAp ?_
  refine zBr ?_
  refine zAb hK ?_; clear hK K
  refine wp_seq_k ?_; intro K hK
  refine zAa ?_
  refine zd E ?_; clear E a; intro a E
  refine wpList_nil ?_
  refine zAb hK ?_; clear hK K
  refine wp_ret ?_
  refine ret1 E rfl rfl ?_
  exact ⟨_, rfl, _, rfl, ⟨fun h => by omega, fun h => absurd (fun k hk => hok k hk oZ) h⟩, S.tail.tr⟩
theorem ifunc2_ret (l : List UInt8) (hl : l.length ≤ 140737488355328) (As : List zAl) (w0 : World) (H : Hp w0 As) :
  Ret Tryz.prog 141 #[str l, .func (.func 135) #[] #[]] w0 fun u w' => ∃ i : Int, u = .int .i64 i ∧ (0 ≤ i ↔ ¬ valP l) ∧ Trs w0 w' As As := by
 have S := St.begin H
 refine zBt 8 Tryz.func141 rfl rfl dZ ?_; intro a E
 refine wp_seq_k ?_; intro K hK
 refine zAa ?_
 refine zd E ?_; clear E a; intro a E
 refine wpList_nil ?_
 refine zAb hK ?_; clear hK K
 refine wp_seq_k ?_; intro K hK
 refine zAa ?_
 iterate 2 (refine zd E ?_; clear E a; intro a E)
 refine zAh E rfl rfl dZ rfl Tryz.func146 rfl yZ rfl (ifunc_ret l hl _ _ S.hp) ?_
 rintro v7 w ⟨i, rfl, hi, hT⟩; clear E a; intro a E
 have S := S.all hT
 refine zd E ?_; clear E a; intro a E
 refine wpList_nil ?_
 refine zAb hK ?_; clear hK K
 refine wp_ret ?_
 refine ret1 E rfl rfl ?_
 exact ⟨_, rfl, i, rfl, hi, S.tr⟩
theorem cfunc_ret (l : List UInt8) (hl : l.length ≤ 140737488355328) (As : List zAl) (w0 : World) (H : Hp w0 As) :
  Ret Tryz.prog 134 #[str l, .func (.func 135) #[] #[]] w0 fun u w' => u = .bool (!valB l) ∧ Trs w0 w' As As := by
 have S := St.begin H
 refine zBt 9 Tryz.func134 rfl rfl dZ ?_; intro a E
 refine wp_seq_k ?_; intro K hK
 refine zAa ?_
 refine zd E ?_; clear E a; intro a E
 refine wpList_nil ?_
 refine zAb hK ?_; clear hK K
 refine wp_seq_k ?_; intro K hK
 refine zAa ?_
 iterate 2 (refine zd E ?_; clear E a; intro a E)
 refine zAh E rfl rfl dZ rfl Tryz.func141 rfl yZ rfl (ifunc2_ret l hl _ _ S.hp) ?_
 rintro v7 w ⟨i, rfl, hi, hT⟩; clear E a; intro a E
 have S := S.all hT
 iterate 2 (refine zd E ?_; clear E a; intro a E)
 refine wpList_nil ?_
 refine zAb hK ?_; clear hK K
 refine wp_ret ?_
 refine ret1 E rfl rfl ?_
 exact ⟨_, rfl, by congr 1; rw [Bool.eq_iff_iff, decide_eq_true_eq, hi]; simp [valB], S.tr⟩
theorem cvalue_ret (l : List UInt8) (hl : l.length ≤ 140737488355328) (As : List zAl) (w0 : World) (H : Hp w0 As) :
  Ret Tryz.prog 129 #[str l] w0 fun u w' => u = .bool (valB l) ∧ Trs w0 w' As As := by
 have S := St.begin H
 refine zCd 6 Tryz.func129 rfl rfl dZ ?_; intro a E
 refine wp_seq_k ?_; intro K hK
 refine zAa ?_
 refine zd E ?_; clear E a; intro a E
 refine wpList_nil ?_
 refine zAb hK ?_; clear hK K
 refine wp_seq_k ?_; intro K hK
 refine zAa ?_
 refine zd E ?_; clear E a; intro a E
 refine zAh E rfl rfl dZ rfl Tryz.func134 rfl yZ rfl (cfunc_ret l hl _ _ S.hp) ?_
 rintro v4 w ⟨rfl, hT⟩; clear E a; intro a E
 have S := S.all hT
 iterate 2 (refine zd E ?_; clear E a; intro a E)
 refine wpList_nil ?_
 refine zAb hK ?_; clear hK K
 refine wp_ret ?_
 refine ret1 E rfl rfl ?_
 exact ⟨_, rfl, by simp, S.tr⟩
theorem nsign_ret (l : List UInt8) (hl : l.length ≤ 140737488355328) (As : List zAl) (w0 : World) (H : Hp w0 As) :
  Ret Tryz.prog 128 #[str l] w0 fun u w' => u = .bool (!zEw l) ∧ Trs w0 w' As As := by
 have S := St.begin H
 refine zCd 6 Tryz.func128 rfl rfl dZ ?_; intro a E
 refine wp_seq_k ?_; intro K hK
 refine zAa ?_
 refine zd E ?_; clear E a; intro a E
 refine wpList_nil ?_
 refine zAb hK ?_; clear hK K
 refine wp_seq_k ?_; intro K hK
 refine zAa ?_
 refine zd E ?_; clear E a; intro a E
 refine zAh E rfl rfl dZ rfl Tryz.func48 rfl yZ rfl (zIb l hl _ _ S.hp) ?_
 rintro v4 w ⟨rfl, hT⟩; clear E a; intro a E
 have S := S.all hT
 iterate 2 (refine zd E ?_; clear E a; intro a E)
 refine wpList_nil ?_
 refine zAb hK ?_; clear hK K
 refine wp_ret ?_
 refine ret1 E rfl rfl ?_
 exact ⟨_, rfl, rfl, S.tr⟩
theorem sifunc_ret (ps : List (List UInt8)) (hl : ps.length ≤ 140737488355328) (hs : ∀ p ∈ ps, p.length ≤ 140737488355328) (g : Nat) (As : List zAl) (hG : [(g, cel (ps.map str) 9)] ∈ As) (w0 : World) (H : Hp w0 As) :
  Ret Tryz.prog 133 #[.slice (some ⟨g, 0, none⟩) ps.length ps.length, .func (.func 128) #[] #[]] w0 fun u w' => ∃ i : Int, u = .int .i64 i ∧ (0 ≤ i ↔ ∃ p ∈ ps, zEw p = false) ∧ Trs w0 w' As As := by
 have S := St.begin H
 refine zBt 19 Tryz.func133 rfl rfl dZ ?_; intro a E
 refine wp_seq_k ?_; intro K hK
 refine zAa ?_
 refine zd E ?_; clear E a; intro a E
 refine wpList_nil ?_
 refine zAb hK ?_; clear hK K
 iterate 2 (refine wp_seq_k ?_; intro K hK)
 refine zAa ?_
 iterate 3 (refine zd E ?_; clear E a; intro a E)
 refine wpList_nil ?_
 refine zAb hK ?_; clear hK K
 refine wp_block ?_
 refine wp_loop_ghost (fun (m : Nat) (a : Act) (w' : World) => ∃ i : Nat, m = ps.length - i ∧ i ≤ ps.length ∧ (∀ k, ∀ hk : k < ps.length, k < i → zEw ps[k] = true) ∧ St w0 As w' As ∧ Fr a 19 [(0, .slice (some ⟨g, 0, none⟩) ps.length ps.length), (1, .func (.func 128) #[] #[]), (7, .int .i64 ps.length), (8, .int .i64 i)]) (ps.length) ?_ ?_
 ·exact ⟨0, by omega, by omega, by intro k _ h; omega, S, E.keep (kE4 rfl rfl rfl rfl)⟩
 clear E; clear a; (try clear S); rintro m a w ⟨i, rfl, hi, hok, S, E⟩
 refine wp_seq_k ?_; intro K hK
 refine zAa ?_
 refine zd E ?_; clear E a; intro a E
 refine wpList_nil ?_
 refine zAb hK ?_; clear hK K
 refine wp_seq_k ?_; intro K hK
 refine zAs E rfl (fun hb => ?_) (fun hb => ?_)
 ·replace hb := Nrm.nrm hb
  refine wp_skip ?_
  refine zAb hK ?_; clear hK K
  refine wp_seq_k ?_; intro K hK
  refine wp_block ?_
  refine wp_seq_k ?_; intro K hK
  have hil : i < ps.length := by omega
  refine zAa ?_
  iterate 2 (refine zd E ?_; clear E a; intro a E)
  refine wpList_nil ?_
  refine zAb hK ?_; clear hK K
  refine wp_seq_k ?_; intro K hK
  refine zAa ?_
  iterate 3 (refine zd E ?_; clear E a; intro a E)
  refine zp E (by first | exact zAw E rfl rfl rfl rfl rfl rfl oZ | exact zBe E rfl rfl rfl rfl rfl rfl oZ | exact zAu E rfl rfl rfl rfl rfl rfl oZ) ?_; clear E a; intro a E
  refine zp E (zBd E rfl rfl rfl (by rw [Nat.zero_add]; exact blk_str (S.stab.one hG) hil)) ?_; clear E a; intro a E
  refine zCh E rfl rfl dZ rfl rfl Tryz.func128 rfl yZ rfl (nsign_ret ps[i] (hs _ (List.getElem_mem hil)) _ _ S.hp) ?_
  rintro v16 w ⟨rfl, hT⟩; clear E a; intro a E
  have S := S.all hT
  refine wpList_nil ?_
  refine zAb hK ?_; clear hK K
  refine zAs E rfl (fun hb => ?_) (fun hb => ?_)
  ·replace hb := Nrm.nrm hb
   refine wp_seq_k ?_; intro K hK
   refine zAa ?_
   iterate 2 (refine zd E ?_; clear E a; intro a E)
   refine wpList_nil ?_
   refine zAb hK ?_; clear hK K
   refine wp_ret ?_
   refine zBw ?_
   refine zAn ?_; clear hK K
   refine zAn ?_
   refine zBw ?_
   refine zAn ?_; clear hK K
   refine ret1 E rfl rfl ?_
   exact ⟨_, rfl, _, rfl, ⟨fun _ => ⟨ps[i], List.getElem_mem hil, by simpa using hb⟩, fun _ => by omega⟩, S.tr⟩
  ·replace hb := Nrm.nrm hb
   refine wp_skip ?_
   refine zAr ?_
   refine zAb hK ?_; clear hK K
   refine zAa ?_
   refine zp E (zBc E rfl rfl rfl (by first | exact zBq (y := 1) oZ | exact w_in oZ | exact zBb oZ | exact rfl)) ?_; clear E a; intro a E
   refine zd E ?_; clear E a; intro a E
   refine wpList_nil ?_
   refine zAy ?_
   refine ⟨_, ?_, i + 1, rfl, by omega, ?_, S, E.keep (kE4 rfl rfl rfl rfl)⟩
   ·omega
   ·intro k hk hki
    by_cases e : k = i
    ·subst e; simpa using hb
    ·exact hok k hk oZ
 ·replace hb := Nrm.nrm hb
  refine wp_exit ?_
  refine zAp ?_; clear hK K
  refine zAp ?_
  refine zBr ?_
  refine zAb hK ?_; clear hK K
  refine wp_seq_k ?_; intro K hK
  refine zAa ?_
  refine zd E ?_; clear E a; intro a E
  refine wpList_nil ?_
  refine zAb hK ?_; clear hK K
  refine wp_ret ?_
  refine ret1 E rfl rfl ?_
  refine ⟨_, rfl, _, rfl, ⟨fun h => by omega, fun ⟨p, hp, hq⟩ => ?_⟩, S.tr⟩
  obtain ⟨k, hk, rfl⟩ := List.getElem_of_mem hp
  rw [hok k hk oZ] at hq
  cases hq
theorem scfunc_ret (ps : List (List UInt8)) (hl : ps.length ≤ 140737488355328) (hs : ∀ p ∈ ps, p.length ≤ 140737488355328) (g : Nat) (As : List zAl) (hG : [(g, cel (ps.map str) 9)] ∈ As) (w0 : World) (H : Hp w0 As) :
  Ret Tryz.prog 127 #[.slice (some ⟨g, 0, none⟩) ps.length ps.length, .func (.func 128) #[] #[]] w0 fun u w' => ∃ z, u = .bool z ∧ (z = true ↔ ∃ p ∈ ps, zEw p = false) ∧ Trs w0 w' As As := by
 have S := St.begin H
 refine zBt 9 Tryz.func127 rfl rfl dZ ?_; intro a E
 refine wp_seq_k ?_; intro K hK
 refine zAa ?_
 refine zd E ?_; clear E a; intro a E
 refine wpList_nil ?_
 refine zAb hK ?_; clear hK K
 refine wp_seq_k ?_; intro K hK
 refine zAa ?_
 iterate 2 (refine zd E ?_; clear E a; intro a E)
 refine zAh E rfl rfl dZ rfl Tryz.func133 rfl yZ rfl (sifunc_ret ps hl hs g _ hG _ S.hp) ?_
 rintro v7 w ⟨i, rfl, hi, hT⟩; clear E a; intro a E
 have S := S.all hT
 iterate 2 (refine zd E ?_; clear E a; intro a E)
 refine wpList_nil ?_
 refine zAb hK ?_; clear hK K
 refine wp_ret ?_
 refine ret1 E rfl rfl ?_
 exact ⟨_, rfl, _, rfl, by rw [decide_eq_true_eq]; exact hi, S.tr⟩
theorem zIc : ∀ (l : List UInt8), ∀ p ∈ zCp l, p.length ≤ l.length
 | [], p, h => by simp [zCp] at h; simp [h]
 | c :: l, p, h => by
  unfold zCp at h
  split at h
  ·rcases List.mem_cons.1 h with rfl | h
   ·simp
   ·have := zIc l p h; simp; omega
  ·obtain ⟨q, qs, hq⟩ := zHr l
   rw [hq] at h
   rcases List.mem_cons.1 h with rfl | h
   ·have := zIc l q (by rw [hq]; simp); simp; omega
   ·have := zIc l p (by rw [hq]; simp [h]); simp; omega
theorem name_ret (l : List UInt8) (hl : l.length ≤ 1100000) (As : List zAl) (w0 : World) (H : Hp w0 As) :
    Ret Tryz.prog 115 #[str l] w0 fun u w' => u = .bool (nameB l) ∧ Trs w0 w' As As := by
  have S := St.begin H
  have hpl := zEv l
  have hcl : l.count 47 ≤ l.length := List.count_le_length
  have hps := zIc l
  refine zCd 19 Tryz.func115 rfl rfl dZ ?_; intro a E
  refine wp_seq_k ?_; intro K hK
  refine zAa ?_
  refine zd E ?_; clear E a; intro a E
  refine wpList_nil ?_
  refine zAb hK ?_; clear hK K
  refine wp_seq_k ?_; intro K hK
  refine zAa ?_
  refine zd E ?_; clear E a; intro a E
  refine zAh E rfl rfl dZ rfl Tryz.func126 rfl yZ rfl (split_ret l hl _ _ S.hp) ?_
  rintro v5 w ⟨g, rfl, hT⟩; clear E a; intro a E
  have S := S.all hT
  refine zd E ?_; clear E a; intro a E
  refine wpList_nil ?_
  refine zAb hK ?_; clear hK K
  refine wp_seq_k ?_; intro K hK
  refine zAa ?_
  iterate 4 (refine zd E ?_; clear E a; intro a E)
  refine zAj E (t := 9) rfl (fun hb9 => ?_) (fun hb9 => ?_)
  · have hb9n := hb9; replace hb9n := Nrm.nrm hb9n
    iterate 3 (refine zyd E hb9 ?_; clear E a; intro a E)
    refine zp E (zAf E rfl rfl hb9 rfl) ?_; clear E a; intro a E
    refine zd E ?_; clear E a; intro a E
    refine zAj E (t := 14) rfl (fun hb14 => ?_) (fun hb14 => ?_)
    · have hb14n := hb14; replace hb14n := Nrm.nrm hb14n
      refine zyd E hb14 ?_; clear E a; intro a E
      refine zBk E rfl rfl rfl rfl hb14 ?_; refine zBy E rfl dZ rfl Tryz.func127 rfl yZ rfl (scfunc_ret (zCp l) oZ (fun p hp => by have := hps p hp; omega) g _ mZ _ S.hp) ?_
      rintro v16 w ⟨z, rfl, hz, hT⟩; clear E a; intro a E
      have S := S.all hT
      refine zyd E hb14 ?_; clear E a; intro a E
      refine zp E (zAf E rfl rfl hb14 rfl) ?_; clear E a; intro a E
      refine zd E ?_; clear E a; intro a E
      refine wpList_nil ?_
      refine zAb hK ?_; clear hK K
      refine wp_ret ?_
      refine ret1 E rfl rfl ?_
      refine ⟨_, rfl, ?_, S.tail.tr⟩
      congr 1
      rw [Bool.eq_iff_iff, zGq]
      first
        | (simp [nameP]; omega)
        | (simp only [nameP, Bool.not_eq_true', ← Bool.not_eq_true, hz]; constructor
           · intro h; exact ⟨by omega, by omega, fun p hp => by simpa using fun q => h ⟨p, hp, q⟩⟩
           · rintro ⟨_, _, h⟩ ⟨p, hp, q⟩; rw [h p hp] at q; exact q rfl)
    · have hb14n := hb14; replace hb14n := Nrm.nrm hb14n
      iterate 3 (refine zn E hb14 ?_; clear E a; intro a E)
      refine zp E (zAe E rfl rfl hb14 rfl) ?_; clear E a; intro a E
      refine zd E ?_; clear E a; intro a E
      refine wpList_nil ?_
      refine zAb hK ?_; clear hK K
      refine wp_ret ?_
      refine ret1 E rfl rfl ?_
      refine ⟨_, rfl, ?_, S.tail.tr⟩
      congr 1
      rw [Bool.eq_iff_iff, zGq]
      first
        | (simp [nameP]; omega)
        | (simp only [nameP, Bool.not_eq_true', ← Bool.not_eq_true, hz]; constructor
           · intro h; exact ⟨by omega, by omega, fun p hp => by simpa using fun q => h ⟨p, hp, q⟩⟩
           · rintro ⟨_, _, h⟩ ⟨p, hp, q⟩; rw [h p hp] at q; exact q rfl)
  · have hb9n := hb9; replace hb9n := Nrm.nrm hb9n
    iterate 3 (refine zn E hb9 ?_; clear E a; intro a E)
    refine zp E (zAe E rfl rfl hb9 rfl) ?_; clear E a; intro a E
    refine zd E ?_; clear E a; intro a E
    iterate 3 (refine zn E rfl ?_; clear E a; intro a E)
    refine zp E (zAe E rfl rfl rfl rfl) ?_; clear E a; intro a E
    refine zd E ?_; clear E a; intro a E
    refine wpList_nil ?_
    refine zAb hK ?_; clear hK K
    refine wp_ret ?_
    refine ret1 E rfl rfl ?_
    refine ⟨_, rfl, ?_, S.tail.tr⟩
    congr 1
    rw [Bool.eq_iff_iff, zGq]
    first
      | (simp [nameP]; omega)
      | (simp only [nameP, Bool.not_eq_true', ← Bool.not_eq_true, hz]; constructor
         · intro h; exact ⟨by omega, by omega, fun p hp => by simpa using fun q => h ⟨p, hp, q⟩⟩
         · rintro ⟨_, _, h⟩ ⟨p, hp, q⟩; rw [h p hp] at q; exact q rfl)
end Go.Proofs.YtbogecljkaimdaaGreatDoor
namespace Go.Sl
theorem zGh {l : List Int} {i : Nat} (h : i < l.length) : (ints l)[i]? = some (.int .i64 l[i]) := by simp [ints, h]
def risAt (l : List Int) (x y : Int) (k : Nat) (h : k < l.length) : Prop := x ≤ l[k] ∧ l[k] ≤ y ∧ ∀ h0 : 0 < k, l[k - 1] < l[k]
theorem ris_no {l : List Int} {x y : Int} {i : Nat} (h : i < l.length) (h1 : ¬ (x ≤ l[i] ∧ l[i] ≤ y) ∨ ∃ h0 : 0 < i, l[i] ≤ l[i - 1]) : risB l x y = false :=
 risB_no fun q => by
  have := q.2 i h
  rcases h1 with h1 | ⟨h0, h1⟩
  ·exact h1 ⟨this.1, this.2.1⟩
  ·have := this.2.2 h0; omega
theorem ris_end {l : List Int} {x y : Int} (h : ∀ k, ∀ hk : k < l.length, risAt l x y k hk) : risB l x y = true ↔ l.length ≤ 240 := by
 rw [risB_iff]
 exact ⟨fun q => q.1, fun q => ⟨q, h⟩⟩
theorem zFw {n : Nat} {P : (k : Nat) → k < n → Prop} {i : Nat} (h : ∀ k, ∀ hk : k < n, k < i → P k hk) (hi : i < n) (h1 : P i hi) : ∀ k, ∀ hk : k < n, k < i + 1 → P k hk := by
 intro k hk hki
 by_cases e : k = i
 ·subst e; exact h1
 ·exact h k hk oZ
theorem prps_no {l : List Prp} {i : Nat} (h : i < l.length) (h1 : ¬ zHf l i h) : prpsB l = false := prpsB_no fun q => h1 (q.2 i h)
theorem prps_end {l : List Prp} (h : ∀ k, ∀ hk : k < l.length, zHf l k hk) : prpsB l = true ↔ l.length ≤ 12 := by
 rw [zGr]
 exact ⟨fun q => q.1, fun q => ⟨q, h⟩⟩
end Go.Sl
namespace Go.Proofs.YtbogecljkaimdaaGreatDoor
open Go.Sl
set_option maxRecDepth 10000
theorem zDf (n x y : Int) (As : List zAl) (w0 : World) (H : Hp w0 As) :
  Ret Tryz.prog 49 #[.int .i64 n, .int .i64 x, .int .i64 y] w0 fun u w' => u = .bool (decide (x ≤ n ∧ n ≤ y)) ∧ Trs w0 w' As As := by
 have S := St.begin H
 refine zEz 15 Tryz.func49 rfl rfl dZ ?_; intro a E
 refine wp_seq_k ?_; intro K hK
 refine zAa ?_
 refine zd E ?_; clear E a; intro a E
 refine wpList_nil ?_
 refine zAb hK ?_; clear hK K
 refine wp_seq_k ?_; intro K hK
 refine zAa ?_
 iterate 4 (refine zd E ?_; clear E a; intro a E)
 refine zAj E (t := 10) rfl (fun hb10 => ?_) (fun hb10 => ?_)
 ·have hb10n := hb10; replace hb10n := Nrm.nrm hb10n
  iterate 3 (refine zyd E hb10 ?_; clear E a; intro a E)
  refine zp E (zAf E rfl rfl hb10 rfl) ?_; clear E a; intro a E
  refine zd E ?_; clear E a; intro a E
  refine wpList_nil ?_
  refine zAb hK ?_; clear hK K
  refine wp_ret ?_
  refine ret1 E rfl rfl ?_
  exact ⟨_, rfl, by congr 1; simp; omega, S.tr⟩
 ·have hb10n := hb10; replace hb10n := Nrm.nrm hb10n
  iterate 3 (refine zn E hb10 ?_; clear E a; intro a E)
  refine zp E (zAe E rfl rfl hb10 rfl) ?_; clear E a; intro a E
  refine zd E ?_; clear E a; intro a E
  refine wpList_nil ?_
  refine zAb hK ?_; clear hK K
  refine wp_ret ?_
  refine ret1 E rfl rfl ?_
  exact ⟨_, rfl, by congr 1; simp; omega, S.tr⟩
theorem ris_ret (C : zAl) (v : Value) (l : List Int) (hR : Rd C 1 v l.length (ints l)) (hl : l.length ≤ 140737488355328) (x y : Int) (As : List zAl) (hC : C ∈ As) (w0 : World) (H : Hp w0 As) :
  Ret Tryz.prog 56 #[v, .int .i64 x, .int .i64 y] w0 fun u w' => u = .bool (risB l x y) ∧ Trs w0 w' As As := by
 have S := St.begin H
 obtain ⟨ad, c, rfl⟩ := hR.slice
 refine zEz 38 Tryz.func56 rfl rfl dZ ?_; intro a E
 refine wp_seq_k ?_; intro K hK
 refine zAa ?_
 refine zd E ?_; clear E a; intro a E
 refine wpList_nil ?_
 refine zAb hK ?_; clear hK K
 iterate 2 (refine wp_seq_k ?_; intro K hK)
 refine zAa ?_
 iterate 3 (refine zd E ?_; clear E a; intro a E)
 refine wpList_nil ?_
 refine zAb hK ?_; clear hK K
 refine wp_block ?_
 refine wp_loop_ghost (fun (m : Nat) (a : Act) (w' : World) => ∃ i : Nat, m = l.length - i ∧ i ≤ l.length ∧ (∀ k, ∀ hk : k < l.length, k < i → risAt l x y k hk) ∧ St w0 As w' As ∧ Fr a 38 [(0, .slice ad l.length c), (1, .int .i64 x), (2, .int .i64 y), (9, .slice ad l.length c), (10, .int .i64 l.length), (11, .int .i64 i)]) (l.length) ?_ ?_
 ·exact ⟨0, by omega, by omega, by intro k _ h; omega, S, E.keep (kE6 rfl rfl rfl rfl rfl rfl)⟩
 clear E; clear a; (try clear S); rintro m a w ⟨i, rfl, hi, hok, S, E⟩
 refine wp_seq_k ?_; intro K hK
 refine zAa ?_
 refine zd E ?_; clear E a; intro a E
 refine wpList_nil ?_
 refine zAb hK ?_; clear hK K
 refine wp_seq_k ?_; intro K hK
 refine zAs E rfl (fun hb => ?_) (fun hb => ?_)
 ·replace hb := Nrm.nrm hb
  refine wp_skip ?_
  refine zAb hK ?_; clear hK K
  refine wp_seq_k ?_; intro K hK
  refine wp_block ?_
  refine wp_seq_k ?_; intro K hK
  have hil : i < l.length := by omega
  obtain ⟨b, off, rfl⟩ := hR.addr oZ
  refine zAa ?_
  refine zd E ?_; clear E a; intro a E
  refine zp E (by first | exact zAw E rfl rfl rfl rfl rfl rfl oZ | exact zBe E rfl rfl rfl rfl rfl rfl oZ | exact zAu E rfl rfl rfl rfl rfl rfl oZ) ?_; clear E a; intro a E
  refine zp E (zBd E rfl rfl rfl (hR.cells (S.stab.at hC) rfl i _ (zGh hil))) ?_; clear E a; intro a E
  iterate 2 (refine zd E ?_; clear E a; intro a E)
  refine wpList_nil ?_
  refine zAb hK ?_; clear hK K
  refine wp_seq_k ?_; intro K hK
  refine zAa ?_
  iterate 3 (refine zd E ?_; clear E a; intro a E)
  refine zAh E rfl rfl dZ rfl Tryz.func49 rfl yZ rfl (zDf l[i] x y _ _ S.hp) ?_
  rintro v19 w ⟨rfl, hT⟩; clear E a; intro a E
  have S := S.all hT
  iterate 2 (refine zd E ?_; clear E a; intro a E)
  refine zAj E (t := 21) rfl (fun hb21 => ?_) (fun hb21 => ?_)
  ·have hb21n := hb21; replace hb21n := Nrm.nrm hb21n
   iterate 3 (refine zn E hb21 ?_; clear E a; intro a E)
   iterate 7 (refine zu E ?_; clear E a; intro a E)
   refine zn E hb21 ?_; clear E a; intro a E
   refine zp E (zAf E rfl rfl hb21 rfl) ?_; clear E a; intro a E
   refine wpList_nil ?_
   refine zAb hK ?_; clear hK K
   refine zBo E rfl rfl ?_
   refine wp_seq_k ?_; intro K hK
   refine zAa ?_
   refine zd E ?_; clear E a; intro a E
   refine wpList_nil ?_
   refine zAb hK ?_; clear hK K
   refine wp_ret ?_
   refine zBw ?_
   refine zAn ?_; clear hK K
   refine zAn ?_
   refine zBw ?_
   refine zAn ?_; clear hK K
   refine ret1 E rfl rfl ?_
   exact ⟨_, rfl, by congr 1; exact (ris_no hil (by first | exact .inr ⟨by omega, hb⟩ | (refine .inl fun q => ?_; simp [q] at hb21; done))).symm, S.tr⟩
  ·have hb21n := hb21; replace hb21n := Nrm.nrm hb21n
   iterate 3 (refine zyd E hb21 ?_; clear E a; intro a E)
   refine zAj E (t := 24) rfl (fun hb24 => ?_) (fun hb24 => ?_)
   ·have hb24n := hb24; replace hb24n := Nrm.nrm hb24n
    iterate 2 (refine zyd E hb24 ?_; clear E a; intro a E)
    refine zy E hb24 (zCv E rfl rfl rfl (by first | exact zFc (y := 1) oZ oZ | exact w_in oZ | exact zBb oZ | exact rfl)) ?_; clear E a; intro a E
    refine zy E hb24 (by first | exact zAw E rfl rfl rfl rfl rfl rfl oZ | exact zBe E rfl rfl rfl rfl rfl rfl oZ | exact zAu E rfl rfl rfl rfl rfl rfl oZ) ?_; clear E a; intro a E
    refine zy E hb24 (zBd E rfl rfl rfl (hR.cells (S.stab.at hC) rfl (i - 1) _ (zGh oZ))) ?_; clear E a; intro a E
    iterate 2 (refine zyd E hb24 ?_; clear E a; intro a E)
    refine zy E hb21 (zAf E rfl rfl hb24 rfl) ?_; clear E a; intro a E
    refine zp E (zAe E rfl rfl hb21 rfl) ?_; clear E a; intro a E
    refine wpList_nil ?_
    refine zAb hK ?_; clear hK K
    refine zAs E rfl (fun hb => ?_) (fun hb => ?_)
    ·replace hb := Nrm.nrm hb
     refine wp_seq_k ?_; intro K hK
     refine zAa ?_
     refine zd E ?_; clear E a; intro a E
     refine wpList_nil ?_
     refine zAb hK ?_; clear hK K
     refine wp_ret ?_
     refine zBw ?_
     refine zAn ?_; clear hK K
     refine zAn ?_
     refine zBw ?_
     refine zAn ?_; clear hK K
     refine ret1 E rfl rfl ?_
     exact ⟨_, rfl, by congr 1; exact (ris_no hil (by first | exact .inr ⟨by omega, hb⟩ | (refine .inl fun q => ?_; simp [q] at hb21; done))).symm, S.tr⟩
    ·replace hb := Nrm.nrm hb
     refine wp_skip ?_
     refine zAr ?_
     refine zAb hK ?_; clear hK K
     refine zAa ?_
     refine zp E (zBc E rfl rfl rfl (by first | exact zBq (y := 1) oZ | exact w_in oZ | exact zBb oZ | exact rfl)) ?_; clear E a; intro a E
     refine zd E ?_; clear E a; intro a E
     refine wpList_nil ?_
     refine zAy ?_
     exact ⟨_, by omega, i + 1, rfl, by omega, zFw hok hil (by have q : x ≤ l[i] ∧ l[i] ≤ y := (by simpa using hb21); exact ⟨q.1, q.2, fun h0 => by first | omega | exact absurd h0 oZ⟩), S, E.keep (kE6 rfl rfl rfl rfl rfl rfl)⟩
   ·have hb24n := hb24; replace hb24n := Nrm.nrm hb24n
    iterate 7 (refine zn E hb24 ?_; clear E a; intro a E)
    refine zy E hb21 (zAe E rfl rfl hb24 rfl) ?_; clear E a; intro a E
    refine zp E (zAe E rfl rfl hb21 rfl) ?_; clear E a; intro a E
    refine wpList_nil ?_
    refine zAb hK ?_; clear hK K
    refine zCq E rfl rfl ?_
    refine wp_skip ?_
    refine zAr ?_
    refine zAb hK ?_; clear hK K
    refine zAa ?_
    refine zp E (zBc E rfl rfl rfl (by first | exact zBq (y := 1) oZ | exact w_in oZ | exact zBb oZ | exact rfl)) ?_; clear E a; intro a E
    refine zd E ?_; clear E a; intro a E
    refine wpList_nil ?_
    refine zAy ?_
    exact ⟨_, by omega, i + 1, rfl, by omega, zFw hok hil (by have q : x ≤ l[i] ∧ l[i] ≤ y := (by simpa using hb21); exact ⟨q.1, q.2, fun h0 => by first | omega | exact absurd h0 oZ⟩), S, E.keep (kE6 rfl rfl rfl rfl rfl rfl)⟩
 ·replace hb := Nrm.nrm hb
  refine wp_exit ?_
  refine zAp ?_; clear hK K
  refine zAp ?_
  refine zBr ?_
  refine zAb hK ?_; clear hK K
  refine wp_seq_k ?_; intro K hK
  refine zAa ?_
  iterate 4 (refine zd E ?_; clear E a; intro a E)
  refine wpList_nil ?_
  refine zAb hK ?_; clear hK K
  refine wp_ret ?_
  refine ret1 E rfl rfl ?_
  exact ⟨_, rfl, by congr 1; rw [Bool.eq_iff_iff, ris_end (l := l) (fun k hk => hok k hk oZ)]; simp; omega, S.tr⟩
theorem props_ret (C : zAl) (v : Value) (l : List Prp) (hR : Rd C 2 v l.length (l.flatMap Prp.lay)) (hl : l.length ≤ 140737488355328) (hs : ∀ p ∈ l, p.name.length ≤ 1048576 ∧ p.value.length ≤ 1048576) (As : List zAl) (hC : C ∈ As) (w0 : World) (H : Hp w0 As) :
  Ret Tryz.prog 116 #[v] w0 fun u w' => u = .bool (prpsB l) ∧ Trs w0 w' As As := by
 have S := St.begin H
 obtain ⟨ad, c, rfl⟩ := hR.slice
 refine zCd 48 Tryz.func116 rfl rfl dZ ?_; intro a E
 refine wp_seq_k ?_; intro K hK
 refine zAa ?_
 refine zd E ?_; clear E a; intro a E
 refine wpList_nil ?_
 refine zAb hK ?_; clear hK K
 iterate 2 (refine wp_seq_k ?_; intro K hK)
 refine zAa ?_
 iterate 3 (refine zd E ?_; clear E a; intro a E)
 refine wpList_nil ?_
 refine zAb hK ?_; clear hK K
 refine wp_block ?_
 refine wp_loop_ghost (fun (m : Nat) (a : Act) (w' : World) => ∃ i : Nat, m = l.length - i ∧ i ≤ l.length ∧ (∀ k, ∀ hk : k < l.length, k < i → zHf l k hk) ∧ St w0 As w' As ∧ Fr a 48 [(0, .slice ad l.length c), (5, .slice ad l.length c), (6, .int .i64 l.length), (7, .int .i64 i)]) (l.length) ?_ ?_
 ·exact ⟨0, by omega, by omega, by intro k _ h; omega, S, E.keep (kE4 rfl rfl rfl rfl)⟩
 clear E; clear a; (try clear S); rintro m a w ⟨i, rfl, hi, hok, S, E⟩
 refine wp_seq_k ?_; intro K hK
 refine zAa ?_
 refine zd E ?_; clear E a; intro a E
 refine wpList_nil ?_
 refine zAb hK ?_; clear hK K
 refine wp_seq_k ?_; intro K hK
 refine zAs E rfl (fun hb => ?_) (fun hb => ?_)
 ·replace hb := Nrm.nrm hb
  refine wp_skip ?_
  refine zAb hK ?_; clear hK K
  refine wp_seq_k ?_; intro K hK
  refine wp_block ?_
  refine wp_seq_k ?_; intro K hK
  have hil : i < l.length := by omega
  obtain ⟨b, off, rfl⟩ := hR.addr oZ
  have hsi := hs _ (List.getElem_mem hil)
  refine zAa ?_
  refine zd E ?_; clear E a; intro a E
  refine zp E (by first | exact zAw E rfl rfl rfl rfl rfl rfl oZ | exact zBe E rfl rfl rfl rfl rfl rfl oZ | exact zAu E rfl rfl rfl rfl rfl rfl oZ) ?_; clear E a; intro a E
  refine zp E (zDp (vs := [_, _]) E rfl rfl rfl rfl (hR.elem (lay := Prp.lay) Prp.lay_len (S.stab.at hC) hil)) ?_; clear E a; intro a E
  refine zAg rfl (zBf E S rfl rfl dZ rfl rfl rfl ?_); clear E S a; intro a w b4 E S
  refine zd E ?_; clear E a; intro a E
  refine zAg rfl (zAq E S rfl rfl rfl rfl (by simp [Value.oneCell']) rfl pZ (by simp) ?_); clear E S a; intro a w E S; simp only [List.take_succ_cons, List.take_zero, List.drop_succ_cons, List.drop_zero, List.cons_append, List.nil_append, List.append_nil, List.length_cons, List.length_nil, Nat.zero_add, Nat.add_zero] at S
  refine wpList_nil ?_
  refine zAb hK ?_; clear hK K
  refine wp_seq_k ?_; intro K hK
  obtain ⟨p, hp⟩ : ∃ p, p = l[i] := ⟨_, rfl⟩
  rw [← hp] at S hsi
  refine zCn S (.ofL [(0, 0), (1, 0), (2, 1), (3, 0), (4, 0), (5, 0), (6, 0), (7, 0), (8, 1), (9, 0), (10, 0), (11, 0), (12, 0), (13, 0), (14, 1), (15, 0), (16, 0), (17, 0), (18, 0), (19, 0), (20, 0), (21, 0), (22, 0), (23, 0), (24, 0), (25, 0), (26, 0), (27, 0), (28, 0), (29, 0), (30, 0), (31, 0)]) [C, [(b4, cel [str p.name, str p.value] 70)]] (fun h => h.sub (by first | (simp; done) | (simp +contextual; done) | (simp [*]; done))) yZ yZ ?_
  clear S; intro w S
  refine zm E rfl (fun w h => by first | exact zAc (q := 0) E rfl rfl rfl | exact zAd (q := 0) E rfl rfl rfl) ?_; clear E a; intro a E
  refine zmd E ?_; clear E a; intro a E
  refine zBs E rfl rfl rfl dZ rfl Tryz.func48 rfl yZ rfl (zIb p.name oZ _ _ S.hp) ?_
  rintro v14 w ⟨rfl, hT⟩; clear E a; intro a E
  have S := S.all hT
  refine ⟨S.stab.sub (by first | (simp; done) | (simp +contextual; done) | (simp [*]; done)), ?_⟩
  iterate 2 (refine zmd E ?_; clear E a; intro a E)
  refine zAj E (t := 16) rfl (fun hb16 => ?_) (fun hb16 => ?_)
  ·have hb16n := hb16; replace hb16n := Nrm.nrm hb16n
   iterate 3 (refine zBl E rfl rfl rfl rfl rfl hb16 rfl dZ ?_; clear E a; intro a E)
   refine zEp E rfl rfl rfl rfl rfl hb16 rfl dZ (S.stab.sub (by first | (simp; done) | (simp +contextual; done) | (simp [*]; done))) ?_; clear E a; intro a E
   refine zBl E rfl rfl rfl rfl rfl hb16 rfl dZ ?_; clear E a; intro a E
   refine zm E rfl (fun w h => zAf E rfl rfl hb16 rfl) ?_; clear E a; intro a E
   refine zmd E ?_; clear E a; intro a E
   iterate 2 (refine zBl E rfl rfl rfl rfl rfl rfl rfl dZ ?_; clear E a; intro a E)
   refine zEp E rfl rfl rfl rfl rfl rfl rfl dZ (S.stab.sub (by first | (simp; done) | (simp +contextual; done) | (simp [*]; done))) ?_; clear E a; intro a E
   refine zBl E rfl rfl rfl rfl rfl rfl rfl dZ ?_; clear E a; intro a E
   refine zm E rfl (fun w h => zAf E rfl rfl rfl rfl) ?_; clear E a; intro a E
   refine zmd E ?_; clear E a; intro a E
   iterate 3 (refine zBl E rfl rfl rfl rfl rfl rfl rfl dZ ?_; clear E a; intro a E)
   iterate 9 (refine zCx E rfl rfl rfl rfl rfl rfl dZ ?_; clear E a; intro a E)
   refine zBl E rfl rfl rfl rfl rfl rfl rfl dZ ?_; clear E a; intro a E
   refine zm E rfl (fun w h => zAf E rfl rfl rfl rfl) ?_; clear E a; intro a E
   refine zBi ?_
   refine zAb hK ?_; clear hK K
   refine zBo E rfl rfl ?_
   refine wp_seq_k ?_; intro K hK
   refine zAa ?_
   refine zd E ?_; clear E a; intro a E
   refine wpList_nil ?_
   refine zAb hK ?_; clear hK K
   refine wp_ret ?_
   refine zBw ?_
   refine zAn ?_; clear hK K
   refine zAn ?_
   refine zBw ?_
   refine zAn ?_; clear hK K
   refine ret1 E rfl rfl ?_
   exact ⟨_, rfl, by congr 1; exact (prps_no hil (by
    unfold zHf; rw [← hp]; rintro ⟨q1, q2, q3, q4, q5⟩
    first | (simp [q1] at hb16; done) | (simp at hb23; omega) | (simp [q4] at hb29; done) | (simp [q5 oZ] at hb; done))).symm, S.tail.tr⟩
  ·have hb16n := hb16; replace hb16n := Nrm.nrm hb16n
   refine zAm E rfl rfl rfl rfl rfl hb16 rfl dZ (fun w h => by first | exact zAc (q := 1) E rfl rfl rfl | exact zAd (q := 1) E rfl rfl rfl) ?_; clear E a; intro a E
   refine zAm E rfl rfl rfl rfl rfl hb16 rfl dZ (fun w h => by first | exact zFq E rfl rfl rfl (h.one mZ) rfl | exact zBd E rfl rfl rfl (by assumption)) ?_; clear E a; intro a E
   refine zAm E rfl rfl rfl rfl rfl hb16 rfl dZ (fun w h => by first | exact rn_len E rfl rfl rfl | exact zFt E rfl rfl rfl | exact zDr E rfl rfl rfl) ?_; clear E a; intro a E
   refine zHv E rfl rfl rfl rfl rfl hb16 ?_; refine zBy E rfl dZ rfl Tryz.func49 rfl yZ rfl (zDf p.value.length 1 64 _ _ S.hp) ?_
   rintro v20 w ⟨rfl, hT⟩; clear E a; intro a E
   have S := S.all hT
   refine ⟨S.stab.sub (by first | (simp; done) | (simp +contextual; done) | (simp [*]; done)), ?_⟩
   refine zAm E rfl rfl rfl rfl rfl hb16 rfl dZ (fun w h => zJk E rfl rfl) ?_; clear E a; intro a E
   refine zm E rfl (fun w h => zAe E rfl rfl hb16 rfl) ?_; clear E a; intro a E
   refine zmd E ?_; clear E a; intro a E
   refine zAj E (t := 23) rfl (fun hb23 => ?_) (fun hb23 => ?_)
   ·have hb23n := hb23; replace hb23n := Nrm.nrm hb23n
    iterate 2 (refine zBl E rfl rfl rfl rfl rfl hb23 rfl dZ ?_; clear E a; intro a E)
    refine zEp E rfl rfl rfl rfl rfl hb23 rfl dZ (S.stab.sub (by first | (simp; done) | (simp +contextual; done) | (simp [*]; done))) ?_; clear E a; intro a E
    refine zBl E rfl rfl rfl rfl rfl hb23 rfl dZ ?_; clear E a; intro a E
    refine zm E rfl (fun w h => zAf E rfl rfl hb23 rfl) ?_; clear E a; intro a E
    refine zmd E ?_; clear E a; intro a E
    iterate 3 (refine zBl E rfl rfl rfl rfl rfl rfl rfl dZ ?_; clear E a; intro a E)
    iterate 9 (refine zCx E rfl rfl rfl rfl rfl rfl dZ ?_; clear E a; intro a E)
    refine zBl E rfl rfl rfl rfl rfl rfl rfl dZ ?_; clear E a; intro a E
    refine zm E rfl (fun w h => zAf E rfl rfl rfl rfl) ?_; clear E a; intro a E
    refine zBi ?_
    refine zAb hK ?_; clear hK K
    refine zBo E rfl rfl ?_
    refine wp_seq_k ?_; intro K hK
    refine zAa ?_
    refine zd E ?_; clear E a; intro a E
    refine wpList_nil ?_
    refine zAb hK ?_; clear hK K
    refine wp_ret ?_
    refine zBw ?_
    refine zAn ?_; clear hK K
    refine zAn ?_
    refine zBw ?_
    refine zAn ?_; clear hK K
    refine ret1 E rfl rfl ?_
    exact ⟨_, rfl, by congr 1; exact (prps_no hil (by
     unfold zHf; rw [← hp]; rintro ⟨q1, q2, q3, q4, q5⟩
     first | (simp [q1] at hb16; done) | (simp at hb23; omega) | (simp [q4] at hb29; done) | (simp [q5 oZ] at hb; done))).symm, S.tail.tr⟩
   ·have hb23n := hb23; replace hb23n := Nrm.nrm hb23n
    refine zAm E rfl rfl rfl rfl rfl hb23 rfl dZ (fun w h => by first | exact zAc (q := 1) E rfl rfl rfl | exact zAd (q := 1) E rfl rfl rfl) ?_; clear E a; intro a E
    refine zAm E rfl rfl rfl rfl rfl hb23 rfl dZ (fun w h => by first | exact zFq E rfl rfl rfl (h.one mZ) rfl | exact zBd E rfl rfl rfl (by assumption)) ?_; clear E a; intro a E
    refine zHv E rfl rfl rfl rfl rfl hb23 ?_; refine zBy E rfl dZ rfl Tryz.func129 rfl yZ rfl (cvalue_ret p.value oZ _ _ S.hp) ?_
    rintro v26 w ⟨rfl, hT⟩; clear E a; intro a E
    have S := S.all hT
    refine ⟨S.stab.sub (by first | (simp; done) | (simp +contextual; done) | (simp [*]; done)), ?_⟩
    refine zAm E rfl rfl rfl rfl rfl hb23 rfl dZ (fun w h => zJk E rfl rfl) ?_; clear E a; intro a E
    refine zm E rfl (fun w h => zAe E rfl rfl hb23 rfl) ?_; clear E a; intro a E
    refine zmd E ?_; clear E a; intro a E
    refine zAj E (t := 29) rfl (fun hb29 => ?_) (fun hb29 => ?_)
    ·have hb29n := hb29; replace hb29n := Nrm.nrm hb29n
     iterate 3 (refine zBl E rfl rfl rfl rfl rfl hb29 rfl dZ ?_; clear E a; intro a E)
     iterate 9 (refine zCx E rfl rfl rfl rfl rfl rfl dZ ?_; clear E a; intro a E)
     refine zBl E rfl rfl rfl rfl rfl hb29 rfl dZ ?_; clear E a; intro a E
     refine zm E rfl (fun w h => zAf E rfl rfl hb29 rfl) ?_; clear E a; intro a E
     refine zBi ?_
     refine zAb hK ?_; clear hK K
     refine zBo E rfl rfl ?_
     refine wp_seq_k ?_; intro K hK
     refine zAa ?_
     refine zd E ?_; clear E a; intro a E
     refine wpList_nil ?_
     refine zAb hK ?_; clear hK K
     refine wp_ret ?_
     refine zBw ?_
     refine zAn ?_; clear hK K
     refine zAn ?_
     refine zBw ?_
     refine zAn ?_; clear hK K
     refine ret1 E rfl rfl ?_
     exact ⟨_, rfl, by congr 1; exact (prps_no hil (by
      unfold zHf; rw [← hp]; rintro ⟨q1, q2, q3, q4, q5⟩
      first | (simp [q1] at hb16; done) | (simp at hb23; omega) | (simp [q4] at hb29; done) | (simp [q5 oZ] at hb; done))).symm, S.tail.tr⟩
    ·have hb29n := hb29; replace hb29n := Nrm.nrm hb29n
     refine zAm E rfl rfl rfl rfl rfl hb29 rfl dZ (fun w h => zDk E rfl rfl) ?_; clear E a; intro a E
     refine zAm E rfl rfl rfl rfl rfl hb29 rfl dZ (fun w h => zJj E rfl rfl rfl) ?_; clear E a; intro a E
     refine zAm E rfl rfl rfl rfl rfl hb29 rfl dZ (fun w h => zDk E rfl rfl) ?_; clear E a; intro a E
     refine zAj E (t := 32) rfl (fun hb32 => ?_) (fun hb32 => ?_)
     ·have hb32n := hb32; replace hb32n := Nrm.nrm hb32n
      iterate 2 (refine zAm E rfl rfl rfl rfl rfl hb32 rfl dZ (fun w h => zDk E rfl rfl) ?_; clear E a; intro a E)
      refine zAm E rfl rfl rfl rfl rfl hb32 rfl dZ (fun w h => zCv E rfl rfl rfl (by first | exact zFc (y := 1) oZ oZ | exact w_in oZ | exact zBb oZ | exact rfl)) ?_; clear E a; intro a E
      refine zAm E rfl rfl rfl rfl rfl hb32 rfl dZ (fun w h => by first | exact zAw E rfl rfl rfl rfl rfl rfl oZ | exact zBe E rfl rfl rfl rfl rfl rfl oZ | exact zAu E rfl rfl rfl rfl rfl rfl oZ) ?_; clear E a; intro a E
      refine zAm E rfl rfl rfl rfl rfl hb32 rfl dZ (fun w h => by first | exact zAc (q := 0) E rfl rfl rfl | exact zAd (q := 0) E rfl rfl rfl) ?_; clear E a; intro a E
      refine zAm E rfl rfl rfl rfl rfl hb32 rfl dZ (fun w h => zBd E rfl rfl rfl (hR.elem (lay := Prp.lay) Prp.lay_len (h.at mZ) (i := i - 1) oZ 0 _ rfl)) ?_; clear E a; intro a E
      refine zAm E rfl rfl rfl rfl rfl hb32 rfl dZ (fun w h => by first | exact zAc (q := 0) E rfl rfl rfl | exact zAd (q := 0) E rfl rfl rfl) ?_; clear E a; intro a E
      refine zAm E rfl rfl rfl rfl rfl hb32 rfl dZ (fun w h => by first | exact zFq E rfl rfl rfl (h.one mZ) rfl | exact zBd E rfl rfl rfl (by assumption)) ?_; clear E a; intro a E
      refine zAm E rfl rfl rfl rfl rfl hb32 rfl dZ (fun w h => zHz E rfl rfl rfl) ?_; clear E a; intro a E
      refine zAm E rfl rfl rfl rfl rfl hb29 rfl dZ (fun w h => zAf E rfl rfl hb32 rfl) ?_; clear E a; intro a E
      refine zm E rfl (fun w h => zAe E rfl rfl hb29 rfl) ?_; clear E a; intro a E
      refine zBi ?_
      refine zAb hK ?_; clear hK K
      refine zAs E rfl (fun hb => ?_) (fun hb => ?_)
      ·replace hb := Nrm.nrm hb
       refine wp_seq_k ?_; intro K hK
       refine zAa ?_
       refine zd E ?_; clear E a; intro a E
       refine wpList_nil ?_
       refine zAb hK ?_; clear hK K
       refine wp_ret ?_
       refine zBw ?_
       refine zAn ?_; clear hK K
       refine zAn ?_
       refine zBw ?_
       refine zAn ?_; clear hK K
       refine ret1 E rfl rfl ?_
       exact ⟨_, rfl, by congr 1; exact (prps_no hil (by
        unfold zHf; rw [← hp]; rintro ⟨q1, q2, q3, q4, q5⟩
        first | (simp [q1] at hb16; done) | (simp at hb23; omega) | (simp [q4] at hb29; done) | (simp [q5 oZ] at hb; done))).symm, S.tail.tr⟩
      ·replace hb := Nrm.nrm hb
       refine wp_skip ?_
       refine zAr ?_
       refine zAb hK ?_; clear hK K
       refine zAa ?_
       refine zp E (zBc E rfl rfl rfl (by first | exact zBq (y := 1) oZ | exact w_in oZ | exact zBb oZ | exact rfl)) ?_; clear E a; intro a E
       refine zd E ?_; clear E a; intro a E
       refine wpList_nil ?_
       refine zAy ?_
       exact ⟨_, by omega, i + 1, rfl, by omega, zFw hok hil (by
        unfold zHf; rw [← hp]
        refine ⟨by simpa using hb16, ?_, ?_, by simpa using hb29, fun h0 => ?_⟩
        ·simp at hb23; omega
        ·simp at hb23; omega
        ·first | (simpa using hb) | exact absurd h0 oZ), S.tail, E.keep (kE4 rfl rfl rfl rfl)⟩
     ·have hb32n := hb32; replace hb32n := Nrm.nrm hb32n
      iterate 9 (refine zBl E rfl rfl rfl rfl rfl hb32 rfl dZ ?_; clear E a; intro a E)
      refine zAm E rfl rfl rfl rfl rfl hb29 rfl dZ (fun w h => zAe E rfl rfl hb32 rfl) ?_; clear E a; intro a E
      refine zm E rfl (fun w h => zAe E rfl rfl hb29 rfl) ?_; clear E a; intro a E
      refine zBi ?_
      refine zAb hK ?_; clear hK K
      refine zCq E rfl rfl ?_
      refine wp_skip ?_
      refine zAr ?_
      refine zAb hK ?_; clear hK K
      refine zAa ?_
      refine zp E (zBc E rfl rfl rfl (by first | exact zBq (y := 1) oZ | exact w_in oZ | exact zBb oZ | exact rfl)) ?_; clear E a; intro a E
      refine zd E ?_; clear E a; intro a E
      refine wpList_nil ?_
      refine zAy ?_
      exact ⟨_, by omega, i + 1, rfl, by omega, zFw hok hil (by
       unfold zHf; rw [← hp]
       refine ⟨by simpa using hb16, ?_, ?_, by simpa using hb29, fun h0 => ?_⟩
       ·simp at hb23; omega
       ·simp at hb23; omega
       ·first | (simpa using hb) | exact absurd h0 oZ), S.tail, E.keep (kE4 rfl rfl rfl rfl)⟩
 ·replace hb := Nrm.nrm hb
  refine wp_exit ?_
  refine zAp ?_; clear hK K
  refine zAp ?_
  refine zBr ?_
  refine zAb hK ?_; clear hK K
  refine wp_seq_k ?_; intro K hK
  refine zAa ?_
  iterate 4 (refine zd E ?_; clear E a; intro a E)
  refine wpList_nil ?_
  refine zAb hK ?_; clear hK K
  refine wp_ret ?_
  refine ret1 E rfl rfl ?_
  exact ⟨_, rfl, by congr 1; rw [Bool.eq_iff_iff, prps_end (l := l) (fun k hk => hok k hk oZ)]; simp; omega, S.tr⟩
end Go.Proofs.YtbogecljkaimdaaGreatDoor
