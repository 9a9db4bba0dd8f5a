/-
  Texts put together (9).
-/
import Derived.Test.YtbogecljkaimdaaGreatDoorZRecordStreams8
namespace Go.Proofs.YtbogecljkaimdaaGreatDoor
open Go.Sl
set_option maxRecDepth 10000
set_option maxHeartbeats 2000000 in
theorem dsha_ret (D : zAy) (v : Value) (b : List UInt8) (hD : Rd D 1 v b.length (byt b)) (hbl : b.length ≤ 140737488352000) (As : List zAy) (hDA : D ∈ As) (hG0 : Tab As 0 sha0.l) (hG1 : Tab As 1 shaK) (w0 : World) (H : Hp w0 As) :
    Ret Tryz.prog 86 #[v] w0 fun u w' => u = (shaF b).agg ∧ Trs w0 w' As As := by
  have S := St.begin H
  have hps := zKt hbl
  have hLl := zHc b
  have hL64 := padL_64 b
  obtain ⟨all, hall⟩ : ∃ all, all = padL b := ⟨_, rfl⟩
  refine zCx 157 Tryz.func86 rfl rfl (by decide) ?_; intro a E
  refine wp_seq_k ?_; intro K hK
  refine zAb ?_
  refine zAn rfl (zBs E S rfl rfl (by decide) rfl rfl rfl ?_); clear E S a; intro a w b2 E S
  refine wpList_nil ?_
  refine zAf hK ?_; clear hK; clear K
  refine wp_seq_k ?_; intro K hK
  refine zAb ?_
  refine zp E (zDo (vs := u32s sha0.l) E rfl rfl rfl rfl (hG0.tail.cells S.stab)) ?_; clear E a; intro a E
  refine zAn rfl (zBs E S rfl rfl (by decide) rfl rfl rfl ?_); clear E S a; intro a w b3 E S
  refine zAn rfl (zGt E S rfl rfl rfl rfl (zIp _) rfl rfl (by repeat (first | exact pk1 | apply zAc)) (by rfl) ?_); clear E S a; intro a w E S
  refine wpList_nil ?_
  refine zAf hK ?_; clear hK; clear K
  refine wp_seq_k ?_; intro K hK
  refine zAb ?_
  refine zp E (zAe E rfl rfl) ?_; clear E a; intro a E
  refine zAp E rfl rfl (by decide) rfl Tryz.func111 rfl (by kernel_rfl) rfl (dpad_ret D v b hD hbl As hDA _ S.tail2.hp) ?_
  rintro v16 w ⟨C, hC, hT⟩; clear E a; intro a E
  have S := St.under [_, _] S hT; rw [← hall] at hC hLl hL64; obtain ⟨adv, cv, rfl, hcv⟩ := buf_hcap hC
  refine zp E (zAd E rfl rfl) ?_; clear E a; intro a E
  refine wpList_nil ?_
  refine zAf hK ?_; clear hK; clear K
  iterate 2 (refine wp_seq_k ?_; intro K hK)
  refine zAb ?_
  refine zp E (zAd E rfl rfl) ?_; clear E a; intro a E
  refine wpList_nil ?_
  refine zAf hK ?_; clear hK; clear K
  refine wp_block ?_
  refine wp_loop_ghost (fun (m : Nat) (a : Act) (w' : World) => ∃ j, m = all.length / 64 - j ∧ j ≤ all.length / 64 ∧ St w0 As w' ([(b3, cel (u32s (shaH all j).l) 122)] :: C :: [(b2, cel [.int .u64 0, .int .u64 0, .int .u64 0, .int .u64 0] 29)] :: As) ∧ Fr a 157 [(2, ptr b2), (3, ptr b3), (4, .slice adv all.length cv), (5, .int .i64 (64 * j : Nat))]) (all.length / 64 - 0) ?_ ?_
  · exact ⟨0, rfl, by omega, S.front3 (by repeat (first | exact pk1 | apply zAc)) (B := C) (by repeat (first | exact pk1 | apply zAc)) (C := [(b2, _)]) (by repeat (first | exact pk1 | apply zAc)), E.keep (zAa rfl (zAa rfl (zAa rfl (zAa rfl zAm))))⟩
  clear E; clear a; (try clear S); rintro m a w ⟨j, rfl, hj, S, E⟩
  iterate 2 (refine wp_seq_k ?_; intro K hK)
  refine zAb ?_
  iterate 2 (refine zp E (zAe E rfl rfl) ?_; clear E a; intro a E)
  refine zp E (by first | exact zBx E rfl rfl rfl | exact zAx E rfl rfl rfl | exact zAq E rfl rfl rfl) ?_; clear E a; intro a E
  refine zp E (zCn E rfl rfl rfl) ?_; clear E a; intro a E
  refine wpList_nil ?_
  refine zAf hK ?_; clear hK; clear K
  refine zBf E rfl (fun hb => ?_) (fun hb => ?_)
  · replace hb := Nrm.nrm hb
    refine wp_skip ?_
    refine zAf hK ?_; clear hK; clear K
    refine wp_seq_k ?_; intro K hK
    refine wp_block ?_
    refine wp_seq_k ?_; intro K hK
    have hjl : 64 * j + 64 ≤ all.length := by omega
    obtain ⟨ad2, hs2, hR2⟩ := hC.rd.cutc (lo := 64 * j) (hi := 64 * j + 64) (by omega) (by omega) (by omega)
    have hbk := blk_length all hjl
    rw [show ((byt all).drop (64 * j * 1)).take ((64 * j + 64 - 64 * j) * 1) = byt (blk all j) by simp [blk, zFr, zGn]] at hR2
    have hR2 : Rd C 1 (.slice ad2 (64 * j + 64 - 64 * j) (cv - 64 * j)) (blk all j).length (byt (blk all j)) := by rw [hbk]; rw [show 64 * j + 64 - 64 * j = 64 by omega] at *; exact hR2
    refine zAb ?_
    iterate 3 (refine zp E (zAe E rfl rfl) ?_; clear E a; intro a E)
    refine zp E (zBu E rfl rfl rfl (by first | exact zCl (y := 64) (by omega) | exact w_in (by omega) | exact zBt (by omega) | exact rfl)) ?_; clear E a; intro a E
    refine zp E (zEg (s := 1) (lo := 64 * j) (hi := 64 * j + 64) E rfl rfl rfl rfl rfl rfl rfl rfl (by omega) (by omega)) ?_; clear E a; intro a E
    rw [hs2] at E
    refine zAp E rfl rfl (by decide) rfl Tryz.func112 rfl (by kernel_rfl) rfl (words_ret C _ (blk all j) hR2 hbk _ (show C ∈ _ from (by repeat (first | exact mm1 | assumption | apply List.Mem.tail))) _ S.hp) ?_
    rintro v28 w ⟨g6, rfl, hT⟩; clear E a; intro a E
    have S := S.all hT; obtain ⟨ws, hws⟩ : ∃ ws, ws = wsN (blk all j) 64 := ⟨_, rfl⟩; have hwl : ws.length = 64 := (by rw [hws]; exact zEr _ _); rw [← hws] at S
    refine zp E (zAd E rfl rfl) ?_; clear E a; intro a E
    refine wpList_nil ?_
    refine zAf hK ?_; clear hK; clear K
    refine wp_seq_k ?_; intro K hK
    obtain ⟨h0, hh0⟩ : ∃ h0, h0 = shaH all j := ⟨_, rfl⟩
    rw [← hh0] at S
    refine zAb ?_
    refine zp E (zGc E rfl rfl rfl (S.get (by repeat (first | exact pk1 | apply zAc))) rfl) ?_; clear E a; intro a E
    refine zAn rfl (zBs E S rfl rfl (by decide) rfl rfl rfl ?_); clear E S a; intro a w b7 E S
    refine zAn rfl (zGt E S rfl rfl rfl rfl (zIp _) rfl rfl (by repeat (first | exact pk1 | apply zAc)) (by rfl) ?_); clear E S a; intro a w E S
    refine wpList_nil ?_
    refine zAf hK ?_; clear hK; clear K
    iterate 2 (refine wp_seq_k ?_; intro K hK)
    refine zAb ?_
    refine zp E (zAd E rfl rfl) ?_; clear E a; intro a E
    refine wpList_nil ?_
    refine zAf hK ?_; clear hK; clear K
    refine wp_block ?_
    refine wp_loop_ghost (fun (m : Nat) (a : Act) (w' : World) => ∃ (i : Nat) (s : S8), m = 64 - i ∧ i ≤ 64 ∧ s = S8.mix h0 shaK ws i ∧ St w0 As w' ([(b7, cel (u32s s.l) 122)] :: [(g6, cel (u32s ws) 121)] :: [(b3, cel (u32s h0.l) 122)] :: C :: [(b2, cel [.int .u64 0, .int .u64 0, .int .u64 0, .int .u64 0] 29)] :: As) ∧ Fr a 157 [(2, ptr b2), (3, ptr b3), (4, .slice adv all.length cv), (5, .int .i64 (64 * j : Nat)), (6, .slice (some ⟨g6, 0, none⟩) 64 64), (7, ptr b7), (8, .int .i64 i)]) (64 - 0) ?_ ?_
    · exact ⟨0, h0, rfl, by omega, rfl, S, E.keep (zAa rfl (zAa rfl (zAa rfl (zAa rfl (zAa rfl (zAa rfl (zAa rfl zAm)))))))⟩
    clear E; clear a; (try clear S); rintro m a w ⟨i, s, rfl, hi, hs, S, E⟩
    iterate 2 (refine wp_seq_k ?_; intro K hK)
    refine zAb ?_
    refine zp E (zAe E rfl rfl) ?_; clear E a; intro a E
    refine zp E (zCn E rfl rfl rfl) ?_; clear E a; intro a E
    refine wpList_nil ?_
    refine zAf hK ?_; clear hK; clear K
    refine zBf E rfl (fun hb => ?_) (fun hb => ?_)
    · replace hb := Nrm.nrm hb
      refine wp_skip ?_
      refine zAf hK ?_; clear hK; clear K
      refine wp_seq_k ?_; intro K hK
      refine wp_block ?_
      refine wp_seq_k ?_; intro K hK
      refine zAb ?_
      refine zp E (zCw (i := 0) E rfl rfl rfl rfl rfl rfl (by omega)) ?_; clear E a; intro a E
      refine zp E (by first | exact zAo E rfl rfl rfl (S.get (by repeat (first | exact pk1 | apply zAc))) rfl | exact zAj E rfl rfl rfl (by assumption)) ?_; clear E a; intro a E
      refine zp E (zAd E rfl rfl) ?_; clear E a; intro a E
      refine wpList_nil ?_
      refine zAf hK ?_; clear hK; clear K
      refine wp_seq_k ?_; intro K hK
      refine zAb ?_
      refine zp E (zCw (i := 4) E rfl rfl rfl rfl rfl rfl (by omega)) ?_; clear E a; intro a E
      refine zp E (by first | exact zAo E rfl rfl rfl (S.get (by repeat (first | exact pk1 | apply zAc))) rfl | exact zAj E rfl rfl rfl (by assumption)) ?_; clear E a; intro a E
      refine zp E (zAd E rfl rfl) ?_; clear E a; intro a E
      refine wpList_nil ?_
      refine zAf hK ?_; clear hK; clear K
      refine wp_seq_k ?_; intro K hK
      refine zBz S (.ofL [(0, 0), (1, 0), (2, 0), (4, 0), (7, 0), (11, 0), (12, 0), (13, 0), (14, 0), (15, 0), (16, 0), (17, 0), (18, 0), (19, 0), (20, 0), (22, 0), (23, 0), (24, 0), (26, 0), (27, 0), (28, 0), (29, 0), (3, 1), (5, 1), (6, 0), (8, 1), (9, 0), (10, 0), (21, 0), (25, 0), (30, 0), (31, 0)]) (by kernel_rfl) (by kernel_rfl) ?_
      clear S; intro w S
      refine zm E rfl (fun w h => zCw (i := 7) E rfl rfl rfl rfl rfl rfl (by omega)) ?_; clear E a; intro a E
      refine zm E rfl (fun w h => by first | exact zAo E rfl rfl rfl (h.one (by repeat (first | exact mm1 | assumption | apply List.Mem.tail))) rfl | exact zAj E rfl rfl rfl (by assumption)) ?_; clear E a; intro a E
      iterate 4 (refine zm E rfl (fun w h => zAe E rfl rfl) ?_; clear E a; intro a E)
      refine zm E rfl (fun w h => zCw (i := 5) E rfl rfl rfl rfl rfl rfl (by omega)) ?_; clear E a; intro a E
      refine zm E rfl (fun w h => by first | exact zAo E rfl rfl rfl (h.one (by repeat (first | exact mm1 | assumption | apply List.Mem.tail))) rfl | exact zAj E rfl rfl rfl (by assumption)) ?_; clear E a; intro a E
      refine zm E rfl (fun w h => zHi E rfl rfl rfl rfl) ?_; clear E a; intro a E
      refine zm E rfl (fun w h => zAe E rfl rfl) ?_; clear E a; intro a E
      refine zm E rfl (fun w h => rn_com E rfl rfl rfl) ?_; clear E a; intro a E
      refine zm E rfl (fun w h => zCw (i := 6) E rfl rfl rfl rfl rfl rfl (by omega)) ?_; clear E a; intro a E
      refine zm E rfl (fun w h => by first | exact zAo E rfl rfl rfl (h.one (by repeat (first | exact mm1 | assumption | apply List.Mem.tail))) rfl | exact zAj E rfl rfl rfl (by assumption)) ?_; clear E a; intro a E
      refine zm E rfl (fun w h => zHi E rfl rfl rfl rfl) ?_; clear E a; intro a E
      refine zm E rfl (fun w h => zFe E rfl rfl rfl rfl) ?_; clear E a; intro a E
      refine zm E rfl (fun w h => zAe E rfl rfl) ?_; clear E a; intro a E
      refine zm E rfl (fun w h => zCw (i := i) E rfl rfl rfl rfl rfl rfl (by omega)) ?_; clear E a; intro a E
      refine zm E rfl (fun w h => zAj E rfl rfl rfl (hG1.tail.tail.tail.tail.tail.cell h (j := i) (by rw [shaK_len]; omega))) ?_; clear E a; intro a E
      iterate 2 (refine zm E rfl (fun w h => zAe E rfl rfl) ?_; clear E a; intro a E)
      refine zm E rfl (fun w h => zKv (i := i) E rfl rfl rfl rfl rfl rfl (by omega)) ?_; clear E a; intro a E
      refine zm E rfl (fun w h => zAj E rfl rfl rfl (zDf (h.one (show [(g6, cel (u32s ws) 121)] ∈ _ from (by repeat (first | exact mm1 | assumption | apply List.Mem.tail)))) (u32_at ws (j := i) (by omega)))) ?_; clear E a; intro a E
      refine zCc E rfl rfl rfl (by decide) rfl Tryz.func113 rfl (by kernel_rfl) rfl (zEl s.e 6 (by omega) _) ?_
      rintro v41 w ⟨rfl, hT⟩; clear E a; intro a E
      have S := S.quiet hT
      refine ⟨S.stab.sub (by first | (simp; done) | (simp +contextual; done) | (simp [*]; done)), ?_⟩
      refine zCc E rfl rfl rfl (by decide) rfl Tryz.func113 rfl (by kernel_rfl) rfl (zEl s.e 11 (by omega) _) ?_
      rintro v43 w ⟨rfl, hT⟩; clear E a; intro a E
      have S := S.quiet hT
      refine ⟨S.stab.sub (by first | (simp; done) | (simp +contextual; done) | (simp [*]; done)), ?_⟩
      refine zm E rfl (fun w h => zFe E rfl rfl rfl rfl) ?_; clear E a; intro a E
      refine zCc E rfl rfl rfl (by decide) rfl Tryz.func113 rfl (by kernel_rfl) rfl (zEl s.e 25 (by omega) _) ?_
      rintro v46 w ⟨rfl, hT⟩; clear E a; intro a E
      have S := S.quiet hT
      refine ⟨S.stab.sub (by first | (simp; done) | (simp +contextual; done) | (simp [*]; done)), ?_⟩
      refine zm E rfl (fun w h => zFe E rfl rfl rfl rfl) ?_; clear E a; intro a E
      iterate 4 (refine zm E rfl (fun w h => zBu E rfl rfl rfl (by first | exact wa1 (by omega) | exact w_in (by omega) | exact zBt (by omega) | exact rfl)) ?_; clear E a; intro a E)
      refine zm E rfl (fun w h => zAd E rfl rfl) ?_; clear E a; intro a E
      refine zBw ?_
      refine zAf hK ?_; clear hK; clear K
      refine wp_seq_k ?_; intro K hK
      refine zBz S (.ofL [(0, 0), (2, 0), (5, 0), (8, 0), (9, 0), (10, 0), (11, 0), (12, 0), (13, 0), (14, 0), (15, 0), (16, 0), (17, 0), (18, 0), (19, 0), (20, 0), (21, 0), (22, 0), (1, 1), (3, 1), (4, 0), (6, 1), (7, 0), (23, 0), (24, 0)]) (by kernel_rfl) (by kernel_rfl) ?_
      clear S; intro w S
      iterate 4 (refine zm E rfl (fun w h => zAe E rfl rfl) ?_; clear E a; intro a E)
      refine zm E rfl (fun w h => zCw (i := 1) E rfl rfl rfl rfl rfl rfl (by omega)) ?_; clear E a; intro a E
      refine zm E rfl (fun w h => by first | exact zAo E rfl rfl rfl (h.one (by repeat (first | exact mm1 | assumption | apply List.Mem.tail))) rfl | exact zAj E rfl rfl rfl (by assumption)) ?_; clear E a; intro a E
      refine zm E rfl (fun w h => zHi E rfl rfl rfl rfl) ?_; clear E a; intro a E
      refine zm E rfl (fun w h => zAe E rfl rfl) ?_; clear E a; intro a E
      refine zm E rfl (fun w h => zCw (i := 2) E rfl rfl rfl rfl rfl rfl (by omega)) ?_; clear E a; intro a E
      refine zm E rfl (fun w h => by first | exact zAo E rfl rfl rfl (h.one (by repeat (first | exact mm1 | assumption | apply List.Mem.tail))) rfl | exact zAj E rfl rfl rfl (by assumption)) ?_; clear E a; intro a E
      refine zm E rfl (fun w h => zHi E rfl rfl rfl rfl) ?_; clear E a; intro a E
      refine zm E rfl (fun w h => zFe E rfl rfl rfl rfl) ?_; clear E a; intro a E
      refine zm E rfl (fun w h => zCw (i := 1) E rfl rfl rfl rfl rfl rfl (by omega)) ?_; clear E a; intro a E
      refine zm E rfl (fun w h => by first | exact zAo E rfl rfl rfl (h.one (by repeat (first | exact mm1 | assumption | apply List.Mem.tail))) rfl | exact zAj E rfl rfl rfl (by assumption)) ?_; clear E a; intro a E
      refine zm E rfl (fun w h => zCw (i := 2) E rfl rfl rfl rfl rfl rfl (by omega)) ?_; clear E a; intro a E
      refine zm E rfl (fun w h => by first | exact zAo E rfl rfl rfl (h.one (by repeat (first | exact mm1 | assumption | apply List.Mem.tail))) rfl | exact zAj E rfl rfl rfl (by assumption)) ?_; clear E a; intro a E
      refine zm E rfl (fun w h => zHi E rfl rfl rfl rfl) ?_; clear E a; intro a E
      refine zm E rfl (fun w h => zFe E rfl rfl rfl rfl) ?_; clear E a; intro a E
      refine zCc E rfl rfl rfl (by decide) rfl Tryz.func113 rfl (by kernel_rfl) rfl (zEl s.a 2 (by omega) _) ?_
      rintro v70 w ⟨rfl, hT⟩; clear E a; intro a E
      have S := S.quiet hT
      refine ⟨S.stab.sub (by first | (simp; done) | (simp +contextual; done) | (simp [*]; done)), ?_⟩
      refine zCc E rfl rfl rfl (by decide) rfl Tryz.func113 rfl (by kernel_rfl) rfl (zEl s.a 13 (by omega) _) ?_
      rintro v72 w ⟨rfl, hT⟩; clear E a; intro a E
      have S := S.quiet hT
      refine ⟨S.stab.sub (by first | (simp; done) | (simp +contextual; done) | (simp [*]; done)), ?_⟩
      refine zm E rfl (fun w h => zFe E rfl rfl rfl rfl) ?_; clear E a; intro a E
      refine zCc E rfl rfl rfl (by decide) rfl Tryz.func113 rfl (by kernel_rfl) rfl (zEl s.a 22 (by omega) _) ?_
      rintro v75 w ⟨rfl, hT⟩; clear E a; intro a E
      have S := S.quiet hT
      refine ⟨S.stab.sub (by first | (simp; done) | (simp +contextual; done) | (simp [*]; done)), ?_⟩
      refine zm E rfl (fun w h => zFe E rfl rfl rfl rfl) ?_; clear E a; intro a E
      refine zm E rfl (fun w h => zBu E rfl rfl rfl (by first | exact wa1 (by omega) | exact w_in (by omega) | exact zBt (by omega) | exact rfl)) ?_; clear E a; intro a E
      refine zm E rfl (fun w h => zAd E rfl rfl) ?_; clear E a; intro a E
      refine zBw ?_
      refine zAf hK ?_; clear hK; clear K
      refine zAb ?_
      iterate 2 (refine zp E (zAe E rfl rfl) ?_; clear E a; intro a E)
      refine zp E (zBu E rfl rfl rfl (by first | exact wa1 (by omega) | exact w_in (by omega) | exact zBt (by omega) | exact rfl)) ?_; clear E a; intro a E
      refine zp E (zAe E rfl rfl) ?_; clear E a; intro a E
      refine zp E (zCw (i := 1) E rfl rfl rfl rfl rfl rfl (by omega)) ?_; clear E a; intro a E
      refine zp E (by first | exact zAo E rfl rfl rfl (S.get (by repeat (first | exact pk1 | apply zAc))) rfl | exact zAj E rfl rfl rfl (by assumption)) ?_; clear E a; intro a E
      refine zp E (zCw (i := 2) E rfl rfl rfl rfl rfl rfl (by omega)) ?_; clear E a; intro a E
      refine zp E (by first | exact zAo E rfl rfl rfl (S.get (by repeat (first | exact pk1 | apply zAc))) rfl | exact zAj E rfl rfl rfl (by assumption)) ?_; clear E a; intro a E
      refine zp E (zCw (i := 3) E rfl rfl rfl rfl rfl rfl (by omega)) ?_; clear E a; intro a E
      refine zp E (by first | exact zAo E rfl rfl rfl (S.get (by repeat (first | exact pk1 | apply zAc))) rfl | exact zAj E rfl rfl rfl (by assumption)) ?_; clear E a; intro a E
      refine zp E (zAe E rfl rfl) ?_; clear E a; intro a E
      refine zp E (zBu E rfl rfl rfl (by first | exact wa1 (by omega) | exact w_in (by omega) | exact zBt (by omega) | exact rfl)) ?_; clear E a; intro a E
      refine zp E (zAe E rfl rfl) ?_; clear E a; intro a E
      refine zp E (zCw (i := 5) E rfl rfl rfl rfl rfl rfl (by omega)) ?_; clear E a; intro a E
      refine zp E (by first | exact zAo E rfl rfl rfl (S.get (by repeat (first | exact pk1 | apply zAc))) rfl | exact zAj E rfl rfl rfl (by assumption)) ?_; clear E a; intro a E
      refine zp E (zCw (i := 6) E rfl rfl rfl rfl rfl rfl (by omega)) ?_; clear E a; intro a E
      refine zp E (by first | exact zAo E rfl rfl rfl (S.get (by repeat (first | exact pk1 | apply zAc))) rfl | exact zAj E rfl rfl rfl (by assumption)) ?_; clear E a; intro a E
      refine zp E (zCh (cells := [_, _, _, _, _, _, _, _]) E rfl rfl rfl) ?_; clear E a; intro a E
      refine zAn rfl (zGt E S rfl rfl rfl rfl one8 rfl rfl (by repeat (first | exact pk1 | apply zAc)) (by rfl) ?_); clear E S a; intro a w E S
      refine wpList_nil ?_
      refine zBi ?_
      refine zAf hK ?_; clear hK; clear K
      refine zAb ?_
      refine zp E (zAe E rfl rfl) ?_; clear E a; intro a E
      refine zp E (zBu E rfl rfl rfl (by first | exact zCl (y := 1) (by omega) | exact w_in (by omega) | exact zBt (by omega) | exact rfl)) ?_; clear E a; intro a E
      refine zp E (zAd E rfl rfl) ?_; clear E a; intro a E
      refine wpList_nil ?_
      refine zBq ?_
      exact ⟨_, by omega, i + 1, s.step (shaK.getD i 0) (ws.getD i 0), rfl, by omega, by rw [hs]; rfl, S, E.keep (zAa rfl (zAa rfl (zAa rfl (zAa rfl (zAa rfl (zAa rfl (zAa rfl zAm)))))))⟩
    · replace hb := Nrm.nrm hb
      refine wp_exit ?_
      refine zBc ?_; clear hK; clear K
      refine zBc ?_
      refine zCj ?_
      refine zAf hK ?_; clear hK; clear K
      refine wp_seq_k ?_; intro K hK
      obtain rfl : i = 64 := by omega
      refine zAb ?_
      refine zp E (zAd E rfl rfl) ?_; clear E a; intro a E
      refine wpList_nil ?_
      refine zAf hK ?_; clear hK; clear K
      refine wp_block ?_
      refine wp_loop_ghost (fun (m : Nat) (a : Act) (w' : World) => ∃ i, m = 8 - i ∧ i ≤ 8 ∧ St w0 As w' ([(b3, cel (u32s (addL h0 s i)) 122)] :: [(b7, cel (u32s s.l) 122)] :: C :: [(b2, cel [.int .u64 0, .int .u64 0, .int .u64 0, .int .u64 0] 29)] :: As) ∧ Fr a 157 [(2, ptr b2), (3, ptr b3), (4, .slice adv all.length cv), (5, .int .i64 (64 * j : Nat)), (7, ptr b7), (13, .int .i64 i)]) (8 - 0) ?_ ?_
      · exact ⟨0, rfl, by omega, by rw [addL_zero]; exact (S.del (A := [(g6, _)]) (by repeat (first | exact pk1 | apply zAc))).front2 (A := [(b3, _)]) (by repeat (first | exact pk1 | apply zAc)) (B := [(b7, _)]) (by repeat (first | exact pk1 | apply zAc)), E.keep (zAa rfl (zAa rfl (zAa rfl (zAa rfl (zAa rfl (zAa rfl zAm))))))⟩
      clear E; clear a; (try clear S); rintro m a w ⟨i, rfl, hi, S, E⟩
      iterate 2 (refine wp_seq_k ?_; intro K hK)
      refine zAb ?_
      refine zp E (zAe E rfl rfl) ?_; clear E a; intro a E
      refine zp E (zCn E rfl rfl rfl) ?_; clear E a; intro a E
      refine wpList_nil ?_
      refine zAf hK ?_; clear hK; clear K
      refine zBf E rfl (fun hb => ?_) (fun hb => ?_)
      · replace hb := Nrm.nrm hb
        refine wp_skip ?_
        refine zAf hK ?_; clear hK; clear K
        refine wp_seq_k ?_; intro K hK
        refine wp_block ?_
        refine zBz S (.ofL [(0, 0), (1, 0), (2, 0), (3, 0), (4, 0), (5, 0), (6, 0), (7, 0), (8, 0), (9, 3)]) (by kernel_rfl) (by kernel_rfl) ?_
        clear S; intro w S
        iterate 2 (refine zm E rfl (fun w h => zAe E rfl rfl) ?_; clear E a; intro a E)
        refine zm E rfl (fun w h => zCw (i := i) E rfl rfl rfl rfl rfl rfl (by omega)) ?_; clear E a; intro a E
        refine zm E rfl (fun w h => zAj E rfl rfl rfl (zDf (h.one (show [(b3, cel (u32s (addL h0 s i)) 122)] ∈ _ from (by repeat (first | exact mm1 | assumption | apply List.Mem.tail)))) (v := .int .u32 (h0.l.getD i 0)) (by rw [u32_at _ (by rw [zHw]; omega), addL_at h0 s (by omega)]))) ?_; clear E a; intro a E
        refine zm E rfl (fun w h => zAe E rfl rfl) ?_; clear E a; intro a E
        refine zm E rfl (fun w h => zCw (i := i) E rfl rfl rfl rfl rfl rfl (by omega)) ?_; clear E a; intro a E
        refine zm E rfl (fun w h => zAj E rfl rfl rfl (zDf (h.one (show [(b7, cel (u32s s.l) 122)] ∈ _ from (by repeat (first | exact mm1 | assumption | apply List.Mem.tail)))) (s8_at s (i := i) (by omega)))) ?_; clear E a; intro a E
        refine zm E rfl (fun w h => zBu E rfl rfl rfl (by first | exact wa1 (by omega) | exact w_in (by omega) | exact zBt (by omega) | exact rfl)) ?_; clear E a; intro a E
        refine zm E rfl (fun w h => zCw (i := i) E rfl rfl rfl rfl rfl rfl (by omega)) ?_; clear E a; intro a E
        refine zCk rfl rfl (zBo E S rfl rfl rfl rfl rfl rfl (by repeat (first | exact pk1 | apply zAc)) (by rw [List.length_map, zHw]; omega) ?_); clear E S a; intro a w E S; try dsimp only [List.set] at S
        refine zBw ?_
        refine zBi ?_
        refine zAf hK ?_; clear hK; clear K
        refine zAb ?_
        refine zp E (zAe E rfl rfl) ?_; clear E a; intro a E
        refine zp E (zBu E rfl rfl rfl (by first | exact zCl (y := 1) (by omega) | exact w_in (by omega) | exact zBt (by omega) | exact rfl)) ?_; clear E a; intro a E
        refine zp E (zAd E rfl rfl) ?_; clear E a; intro a E
        refine wpList_nil ?_
        refine zBq ?_
        exact ⟨_, by omega, i + 1, rfl, by omega, by rw [← addL_set h0 s (by omega)]; exact S, E.keep (zAa rfl (zAa rfl (zAa rfl (zAa rfl (zAa rfl (zAa rfl zAm))))))⟩
      · replace hb := Nrm.nrm hb
        refine wp_exit ?_
        refine zBc ?_; clear hK; clear K
        refine zBc ?_
        refine zCj ?_
        refine zBi ?_
        refine zAf hK ?_; clear hK; clear K
        obtain rfl : i = 8 := by omega
        rw [addL_end, hs, hh0, hws] at S
        refine zAb ?_
        refine zp E (zAe E rfl rfl) ?_; clear E a; intro a E
        refine zp E (zBu E rfl rfl rfl (by first | exact zCl (y := 64) (by omega) | exact w_in (by omega) | exact zBt (by omega) | exact rfl)) ?_; clear E a; intro a E
        refine zp E (zAd E rfl rfl) ?_; clear E a; intro a E
        refine wpList_nil ?_
        refine zBq ?_
        rw [show 64 * j + 64 = 64 * (j + 1) by omega] at E
        exact ⟨_, by omega, j + 1, rfl, by omega, (S.del (A := [(b7, _)]) (by repeat (first | exact pk1 | apply zAc))).front1 (A := [(b3, _)]) (by repeat (first | exact pk1 | apply zAc)), E.keep (zAa rfl (zAa rfl (zAa rfl (zAa rfl zAm))))⟩
  · replace hb := Nrm.nrm hb
    refine wp_exit ?_
    refine zBc ?_; clear hK; clear K
    refine zBc ?_
    refine zCj ?_
    refine zAf hK ?_; clear hK; clear K
    refine wp_seq_k ?_; intro K hK
    obtain ⟨hh, hhe⟩ : ∃ hh, hh = shaH all (all.length / 64) := ⟨_, rfl⟩
    obtain rfl : j = all.length / 64 := by omega
    rw [← hhe] at S
    refine zAb ?_
    refine zp E (zCw (i := 0) E rfl rfl rfl rfl rfl rfl (by omega)) ?_; clear E a; intro a E
    refine zp E (by first | exact zAo E rfl rfl rfl (S.get (by repeat (first | exact pk1 | apply zAc))) rfl | exact zAj E rfl rfl rfl (by assumption)) ?_; clear E a; intro a E
    refine zp E (zBe E rfl rfl rfl rfl rfl) ?_; clear E a; intro a E
    refine zp E (zGm E rfl rfl rfl (by omega) (by simp only [IntKind.bits]; omega) rfl) ?_; clear E a; intro a E
    refine zp E (zCw (i := 1) E rfl rfl rfl rfl rfl rfl (by omega)) ?_; clear E a; intro a E
    refine zp E (by first | exact zAo E rfl rfl rfl (S.get (by repeat (first | exact pk1 | apply zAc))) rfl | exact zAj E rfl rfl rfl (by assumption)) ?_; clear E a; intro a E
    refine zp E (zBe E rfl rfl rfl rfl rfl) ?_; clear E a; intro a E
    refine zp E (zIg E rfl rfl rfl rfl) ?_; clear E a; intro a E
    refine zp E (zCw (i := 2) E rfl rfl rfl rfl rfl rfl (by omega)) ?_; clear E a; intro a E
    refine zp E (by first | exact zAo E rfl rfl rfl (S.get (by repeat (first | exact pk1 | apply zAc))) rfl | exact zAj E rfl rfl rfl (by assumption)) ?_; clear E a; intro a E
    refine zp E (zBe E rfl rfl rfl rfl rfl) ?_; clear E a; intro a E
    refine zp E (zGm E rfl rfl rfl (by omega) (by simp only [IntKind.bits]; omega) rfl) ?_; clear E a; intro a E
    refine zp E (zCw (i := 3) E rfl rfl rfl rfl rfl rfl (by omega)) ?_; clear E a; intro a E
    refine zp E (by first | exact zAo E rfl rfl rfl (S.get (by repeat (first | exact pk1 | apply zAc))) rfl | exact zAj E rfl rfl rfl (by assumption)) ?_; clear E a; intro a E
    refine zp E (zBe E rfl rfl rfl rfl rfl) ?_; clear E a; intro a E
    refine zp E (zIg E rfl rfl rfl rfl) ?_; clear E a; intro a E
    refine zp E (zCw (i := 4) E rfl rfl rfl rfl rfl rfl (by omega)) ?_; clear E a; intro a E
    refine zp E (by first | exact zAo E rfl rfl rfl (S.get (by repeat (first | exact pk1 | apply zAc))) rfl | exact zAj E rfl rfl rfl (by assumption)) ?_; clear E a; intro a E
    refine zp E (zBe E rfl rfl rfl rfl rfl) ?_; clear E a; intro a E
    refine zp E (zGm E rfl rfl rfl (by omega) (by simp only [IntKind.bits]; omega) rfl) ?_; clear E a; intro a E
    refine zp E (zCw (i := 5) E rfl rfl rfl rfl rfl rfl (by omega)) ?_; clear E a; intro a E
    refine zp E (by first | exact zAo E rfl rfl rfl (S.get (by repeat (first | exact pk1 | apply zAc))) rfl | exact zAj E rfl rfl rfl (by assumption)) ?_; clear E a; intro a E
    refine zp E (zBe E rfl rfl rfl rfl rfl) ?_; clear E a; intro a E
    refine zp E (zIg E rfl rfl rfl rfl) ?_; clear E a; intro a E
    refine zp E (zCw (i := 6) E rfl rfl rfl rfl rfl rfl (by omega)) ?_; clear E a; intro a E
    refine zp E (by first | exact zAo E rfl rfl rfl (S.get (by repeat (first | exact pk1 | apply zAc))) rfl | exact zAj E rfl rfl rfl (by assumption)) ?_; clear E a; intro a E
    refine zp E (zBe E rfl rfl rfl rfl rfl) ?_; clear E a; intro a E
    refine zp E (zGm E rfl rfl rfl (by omega) (by simp only [IntKind.bits]; omega) rfl) ?_; clear E a; intro a E
    refine zp E (zCw (i := 7) E rfl rfl rfl rfl rfl rfl (by omega)) ?_; clear E a; intro a E
    refine zp E (by first | exact zAo E rfl rfl rfl (S.get (by repeat (first | exact pk1 | apply zAc))) rfl | exact zAj E rfl rfl rfl (by assumption)) ?_; clear E a; intro a E
    refine zp E (zBe E rfl rfl rfl rfl rfl) ?_; clear E a; intro a E
    refine zp E (zIg E rfl rfl rfl rfl) ?_; clear E a; intro a E
    refine zp E (zCh (cells := [_, _, _, _]) E rfl rfl rfl) ?_; clear E a; intro a E
    refine zAn rfl (zAz E S rfl rfl rfl rfl (by simp [Value.oneCell']) rfl (by repeat (first | exact pk1 | apply zAc)) (by simp) ?_); clear E S a; intro a w E S; simp only [List.take_succ_cons, List.take_zero, List.drop_succ_cons, List.drop_zero, List.cons_append, List.nil_append, List.append_nil, List.length_cons, List.length_nil, Nat.zero_add, Nat.add_zero] at S
    refine wpList_nil ?_
    refine zAf hK ?_; clear hK; clear K
    refine wp_ret ?_
    refine zGs E rfl rfl (S.get (by repeat (first | exact pk1 | apply zAc))) rfl ?_
    exact ⟨_, rfl, by rw [shaF, ← hall, ← hhe]; simp only [S8.fs, Fs.agg, pairN_eq]; rfl, S.tail3.tr⟩
theorem sumof2_ret (D : zAy) (v : Value) (b : List UInt8) (hD : Rd D 1 v b.length (byt b)) (hbl : b.length ≤ 140737488352000) (As : List zAy) (hDA : D ∈ As) (hG : Tab As 2 shaK) (w0 : World) (H : Hp w0 As) :
    Ret Tryz.prog 76 #[.int .i64 2, v] w0 fun u w' => u = .tuple #[(shaF b).agg, .int .i64 0] ∧ Trs w0 w' As As := by
  have S := St.begin H
  refine zCr 21 Tryz.func76 rfl rfl (by decide) ?_; intro a E
  refine wp_seq_k ?_; intro K hK
  refine zAb ?_
  refine zAn rfl (zBs E S rfl rfl (by decide) rfl rfl rfl ?_); clear E S a; intro a w b4 E S
  refine zp E (zAd E rfl rfl) ?_; clear E a; intro a E
  refine wpList_nil ?_
  refine zAf hK ?_; clear hK; clear K
  iterate 2 (refine wp_seq_k ?_; intro K hK)
  refine zAb ?_
  refine zp E (zAe E rfl rfl) ?_; clear E a; intro a E
  refine wpList_nil ?_
  refine zAf hK ?_; clear hK; clear K
  refine wp_block ?_
  refine wp_seq_k ?_; intro K hK
  refine zAb ?_
  refine zp E (by first | exact zCe E rfl rfl rfl | exact zAt E rfl rfl rfl rfl | exact zBd E rfl rfl rfl rfl | exact zAw E rfl rfl rfl) ?_; clear E a; intro a E
  refine zp E (zAd E rfl rfl) ?_; clear E a; intro a E
  refine wpList_nil ?_
  refine zAf hK ?_; clear hK; clear K
  refine zDl E rfl (rfl) ?_
  refine wp_seq_k ?_; intro K hK
  refine zAb ?_
  refine zp E (by first | exact zCe E rfl rfl rfl | exact zAt E rfl rfl rfl rfl | exact zBd E rfl rfl rfl rfl | exact zAw E rfl rfl rfl) ?_; clear E a; intro a E
  refine zp E (zAd E rfl rfl) ?_; clear E a; intro a E
  refine wpList_nil ?_
  refine zAf hK ?_; clear hK; clear K
  refine zCi E rfl (rfl) ?_
  refine wp_seq_k ?_; intro K hK
  refine zAb ?_
  refine zp E (zAe E rfl rfl) ?_; clear E a; intro a E
  refine zAp E rfl rfl (by decide) rfl Tryz.func105 rfl (by kernel_rfl) rfl (sha_ret D v b hD hbl As hDA hG _ S.tail.hp) ?_
  rintro v19 w ⟨rfl, hT⟩; clear E a; intro a E
  have S := St.under [_] S hT
  refine zAn rfl (zAz E S rfl rfl rfl rfl (by simp [Value.oneCell']) rfl (by repeat (first | exact pk1 | apply zAc)) (by simp) ?_); clear E S a; intro a w E S; simp only [List.take_succ_cons, List.take_zero, List.drop_succ_cons, List.drop_zero, List.cons_append, List.nil_append, List.append_nil, List.length_cons, List.length_nil, Nat.zero_add, Nat.add_zero] at S
  refine zp E (zAd E rfl rfl) ?_; clear E a; intro a E
  refine wpList_nil ?_
  refine zAf hK ?_; clear hK; clear K
  refine wp_ret ?_
  refine zCm ?_
  refine zAv ?_; clear hK; clear K
  refine ret_ct E rfl rfl rfl (S.get (by repeat (first | exact pk1 | apply zAc))) rfl ?_
  exact ⟨_, rfl, rfl, S.tail.tr⟩
theorem dsumof2_ret (D : zAy) (v : Value) (b : List UInt8) (hD : Rd D 1 v b.length (byt b)) (hbl : b.length ≤ 140737488352000) (As : List zAy) (hDA : D ∈ As) (hG0 : Tab As 0 sha0.l) (hG1 : Tab As 1 shaK) (w0 : World) (H : Hp w0 As) :
    Ret Tryz.prog 41 #[.int .i64 2, v] w0 fun u w' => u = .tuple #[(shaF b).agg, .int .i64 0] ∧ Trs w0 w' As As := by
  have S := St.begin H
  refine zCr 16 Tryz.func41 rfl rfl (by decide) ?_; intro a E
  refine wp_seq_k ?_; intro K hK
  refine zAb ?_
  refine zAn rfl (zBs E S rfl rfl (by decide) rfl rfl rfl ?_); clear E S a; intro a w b4 E S
  refine zp E (zAd E rfl rfl) ?_; clear E a; intro a E
  refine wpList_nil ?_
  refine zAf hK ?_; clear hK; clear K
  iterate 2 (refine wp_seq_k ?_; intro K hK)
  refine zAb ?_
  refine zp E (zAe E rfl rfl) ?_; clear E a; intro a E
  refine wpList_nil ?_
  refine zAf hK ?_; clear hK; clear K
  refine wp_block ?_
  refine wp_seq_k ?_; intro K hK
  refine zAb ?_
  refine zp E (by first | exact zCe E rfl rfl rfl | exact zAt E rfl rfl rfl rfl | exact zBd E rfl rfl rfl rfl | exact zAw E rfl rfl rfl) ?_; clear E a; intro a E
  refine zp E (zAd E rfl rfl) ?_; clear E a; intro a E
  refine wpList_nil ?_
  refine zAf hK ?_; clear hK; clear K
  refine zDl E rfl (rfl) ?_
  refine wp_seq_k ?_; intro K hK
  refine zAb ?_
  refine zp E (by first | exact zCe E rfl rfl rfl | exact zAt E rfl rfl rfl rfl | exact zBd E rfl rfl rfl rfl | exact zAw E rfl rfl rfl) ?_; clear E a; intro a E
  refine zp E (zAd E rfl rfl) ?_; clear E a; intro a E
  refine wpList_nil ?_
  refine zAf hK ?_; clear hK; clear K
  refine zCi E rfl (rfl) ?_
  refine wp_seq_k ?_; intro K hK
  refine zAb ?_
  refine zp E (zAe E rfl rfl) ?_; clear E a; intro a E
  refine zAp E rfl rfl (by decide) rfl Tryz.func86 rfl (by kernel_rfl) rfl (dsha_ret D v b hD hbl As hDA hG0 hG1 _ S.tail.hp) ?_
  rintro v14 w ⟨rfl, hT⟩; clear E a; intro a E
  have S := St.under [_] S hT
  refine zAn rfl (zAz E S rfl rfl rfl rfl (by simp [Value.oneCell']) rfl (by repeat (first | exact pk1 | apply zAc)) (by simp) ?_); clear E S a; intro a w E S; simp only [List.take_succ_cons, List.take_zero, List.drop_succ_cons, List.drop_zero, List.cons_append, List.nil_append, List.append_nil, List.length_cons, List.length_nil, Nat.zero_add, Nat.add_zero] at S
  refine zp E (zAd E rfl rfl) ?_; clear E a; intro a E
  refine wpList_nil ?_
  refine zAf hK ?_; clear hK; clear K
  refine wp_ret ?_
  refine zCm ?_
  refine zAv ?_; clear hK; clear K
  refine ret_ct E rfl rfl rfl (S.get (by repeat (first | exact pk1 | apply zAc))) rfl ?_
  exact ⟨_, rfl, rfl, S.tail.tr⟩
end Go.Proofs.YtbogecljkaimdaaGreatDoor
namespace Go.Sl
def Fs.ws (s : Fs) : List Nat := [s.a, s.b, s.c, s.d]
def u64n (l : List Nat) : List Value := l.map fun (n : Nat) => Value.int .u64 (n : Int)
theorem u64n_at {l : List Nat} {i : Nat} (h : i < l.length) : (u64n l)[i]? = some (.int .u64 (l[i] : Int)) := by simp [u64n, h]
def zGv (l : List Nat) : List UInt8 := l.flatMap fun n => zBy n 8
def zFa (s : Fs) : List UInt8 := zGv s.ws
theorem zIv (l : List Nat) : (zGv l).length = 8 * l.length := by
  induction l with
  | nil => rfl
  | cons a l ih =>
    have : zGv (a :: l) = zBy a 8 ++ zGv l := rfl
    rw [this, List.length_append, ih, zBh, List.length_cons]; omega
theorem zKw {l : List Nat} {i : Nat} (h : i < l.length) : zGv (l.take (i + 1)) = zGv (l.take i) ++ zBy l[i] 8 := by
  rw [← List.take_append_getElem h]
  simp only [zGv, List.flatMap_append]
  simp
theorem zEe (s : Fs) : (zFa s).length = 32 := by rw [zFa, zIv]; rfl
end Go.Sl
namespace Go.Proofs.YtbogecljkaimdaaGreatDoor
open Go.Sl
set_option maxRecDepth 10000
theorem zJc (s : Fs) (As : List zAy) (w0 : World) (H : Hp w0 As) :
    Ret Tryz.prog 32 #[s.agg] w0 fun u w' => ∃ C, Buf C 5 1 u 32 (byt (zFa s)) ∧ Trs w0 w' As (C :: As) := by
  have S := St.begin H
  obtain ⟨ws, hws⟩ : ∃ ws, ws = s.ws := ⟨_, rfl⟩
  have hwl : ws.length = 4 := by rw [hws]; rfl
  have hwc : u64n ws = [.int .u64 s.a, .int .u64 s.b, .int .u64 s.c, .int .u64 s.d] := by rw [hws]; rfl
  refine zCx 35 Tryz.func32 rfl rfl (by decide) ?_; intro a E
  refine wp_seq_k ?_; intro K hK
  refine zAb ?_
  refine zAn rfl (zCt E S rfl rfl (by decide) rfl rfl ?_); clear E S a; intro a w b1 E S
  refine zp E (zAd E rfl rfl) ?_; clear E a; intro a E
  refine wpList_nil ?_
  refine zAf hK ?_; clear hK; clear K
  refine wp_seq_k ?_; intro K hK
  refine zAb ?_
  refine zp E (zAd E rfl rfl) ?_; clear E a; intro a E
  refine wpList_nil ?_
  refine zAf hK ?_; clear hK; clear K
  iterate 2 (refine wp_seq_k ?_; intro K hK)
  refine zAb ?_
  refine zp E (by first | exact zAg (q := 0) E rfl rfl rfl | exact zAh (q := 0) E rfl rfl rfl) ?_; clear E a; intro a E
  refine zp E (by first | exact zAo E rfl rfl rfl (S.get (by repeat (first | exact pk1 | apply zAc))) rfl | exact zAj E rfl rfl rfl (by assumption)) ?_; clear E a; intro a E
  refine zp E (by first | exact zAg (q := 1) E rfl rfl rfl | exact zAh (q := 1) E rfl rfl rfl) ?_; clear E a; intro a E
  refine zp E (by first | exact zAo E rfl rfl rfl (S.get (by repeat (first | exact pk1 | apply zAc))) rfl | exact zAj E rfl rfl rfl (by assumption)) ?_; clear E a; intro a E
  refine zp E (by first | exact zAg (q := 2) E rfl rfl rfl | exact zAh (q := 2) E rfl rfl rfl) ?_; clear E a; intro a E
  refine zp E (by first | exact zAo E rfl rfl rfl (S.get (by repeat (first | exact pk1 | apply zAc))) rfl | exact zAj E rfl rfl rfl (by assumption)) ?_; clear E a; intro a E
  refine zp E (by first | exact zAg (q := 3) E rfl rfl rfl | exact zAh (q := 3) E rfl rfl rfl) ?_; clear E a; intro a E
  refine zp E (by first | exact zAo E rfl rfl rfl (S.get (by repeat (first | exact pk1 | apply zAc))) rfl | exact zAj E rfl rfl rfl (by assumption)) ?_; clear E a; intro a E
  refine zAn rfl (zDg (cells := [_, _, _, _]) E S rfl rfl (by decide) rfl rfl rfl rfl rfl (by decide) rfl ?_); clear E S a; intro a w b15 E S
  rw [← hwc] at S
  refine zp E (by first | exact zBx E rfl rfl rfl | exact zAx E rfl rfl rfl | exact zAq E rfl rfl rfl) ?_; clear E a; intro a E
  refine zp E (zAe E rfl rfl) ?_; clear E a; intro a E
  refine wpList_nil ?_
  refine zAf hK ?_; clear hK; clear K
  refine wp_block ?_
  refine wp_loop_ghost (fun (m : Nat) (a : Act) (w' : World) => ∃ (i : Nat) (C : zAy) (v : Value), m = 4 - i ∧ i ≤ 4 ∧ Buf C 5 1 v (8 * i) (byt (zGv (ws.take i))) ∧ St w0 As w' (C :: [(b15, cel (u64n ws) 27)] :: As) ∧ Fr a 35 [(3, v), (15, .slice (some ⟨b15, 0, none⟩) 4 4), (16, .int .i64 4), (17, .int .i64 i)]) (4) ?_ ?_
  · exact ⟨0, [], _, by omega, by omega, Buf.nil _ _, S.perm2.tail.addNil, E.keep (zAa rfl (zAa rfl (zAa rfl (zAa rfl zAm))))⟩
  clear E; clear a; (try clear S); rintro m a w ⟨i, C, v, rfl, hi, hB, S, E⟩
  refine wp_seq_k ?_; intro K hK
  refine zAb ?_
  refine zp E (zCn E rfl rfl rfl) ?_; clear E a; intro a E
  refine wpList_nil ?_
  refine zAf hK ?_; clear hK; clear K
  refine wp_seq_k ?_; intro K hK
  refine zBf E rfl (fun hb => ?_) (fun hb => ?_)
  · replace hb := Nrm.nrm hb
    refine wp_skip ?_
    refine zAf hK ?_; clear hK; clear K
    refine wp_seq_k ?_; intro K hK
    refine wp_block ?_
    refine wp_seq_k ?_; intro K hK
    have hil : i < ws.length := by omega
    refine zAb ?_
    refine zp E (by first | exact zBl E rfl rfl rfl rfl rfl rfl (by omega) | exact zBv E rfl rfl rfl rfl rfl rfl (by omega) | exact zBj E rfl rfl rfl rfl rfl rfl (by omega)) ?_; clear E a; intro a E
    refine zp E (zAj E rfl rfl rfl (by rw [Nat.zero_add]; exact zDf (S.get (by repeat (first | exact pk1 | apply zAc))) (u64n_at hil))) ?_; clear E a; intro a E
    refine zp E (zAd E rfl rfl) ?_; clear E a; intro a E
    refine wpList_nil ?_
    refine zAf hK ?_; clear hK; clear K
    refine wp_seq_k ?_; intro K hK
    refine zAb ?_
    refine zp E (zAe E rfl rfl) ?_; clear E a; intro a E
    refine wpList_nil ?_
    refine zAf hK ?_; clear hK; clear K
    refine wp_block ?_
    refine wp_loop_ghost (fun (m : Nat) (a : Act) (w' : World) => ∃ (j : Nat) (C : zAy) (v : Value), m = 8 - j ∧ j ≤ 8 ∧ Buf C 5 1 v (8 * i + j) (byt (zGv (ws.take i) ++ zBy ws[i] j)) ∧ St w0 As w' (C :: [(b15, cel (u64n ws) 27)] :: As) ∧ Fr a 35 [(3, v), (5, .int .u64 ws[i]), (15, .slice (some ⟨b15, 0, none⟩) 4 4), (16, .int .i64 4), (17, .int .i64 i), (21, .int .i64 j)]) (8) ?_ ?_
    · exact ⟨0, C, v, by omega, by omega, by simpa [zBy] using hB, S, E.keep (zAa rfl (zAa rfl (zAa rfl (zAa rfl (zAa rfl (zAa rfl zAm))))))⟩
    clear E; clear a; (try clear S); rintro m a w ⟨j, C, v, rfl, hj, hB, S, E⟩
    refine wp_seq_k ?_; intro K hK
    refine zAb ?_
    refine zp E (zCn E rfl rfl rfl) ?_; clear E a; intro a E
    refine wpList_nil ?_
    refine zAf hK ?_; clear hK; clear K
    refine wp_seq_k ?_; intro K hK
    refine zBf E rfl (fun hb => ?_) (fun hb => ?_)
    · replace hb := Nrm.nrm hb
      refine wp_skip ?_
      refine zAf hK ?_; clear hK; clear K
      refine wp_seq_k ?_; intro K hK
      refine wp_block ?_
      refine wp_seq_k ?_; intro K hK
      refine zAb ?_
      refine zp E (zAe E rfl rfl) ?_; clear E a; intro a E
      refine zp E (zAd E rfl rfl) ?_; clear E a; intro a E
      refine wpList_nil ?_
      refine zAf hK ?_; clear hK; clear K
      refine zAb ?_
      iterate 3 (refine zp E (zAe E rfl rfl) ?_; clear E a; intro a E)
      refine zp E (zFb E rfl rfl rfl (by first | exact zFp (x := 8) (by omega) | exact zEt (x := 8) (by omega) | exact w_in (by omega) | exact rfl)) ?_; clear E a; intro a E
      refine zp E (zIc E rfl rfl rfl (by omega) (by simp only [IntKind.bits]; omega) shru) ?_; clear E a; intro a E
      refine zp E (zBe E rfl rfl rfl rfl (w8 _)) ?_; clear E a; intro a E
      refine zAn rfl (zDg (cells := [_]) E S rfl rfl (by decide) rfl rfl rfl rfl rfl (by decide) rfl ?_); clear E S a; intro a w b30 E S
      refine zAn rfl (zCq (by' := 1) E S rfl rfl (by decide) rfl rfl hB (by repeat (first | exact pk1 | apply zAc)) ((zEp (g := b30) (T := 5) (xs := [.int .u8 (UInt8.ofNat (ws[i] / 2 ^ (8 * j))).toNat]) (s := 1) (m := 1) rfl (by simp [Value.oneCell']) (by omega) 1).src (S.stab.at (by repeat (first | exact mm1 | assumption | apply List.Mem.tail))) rfl) rfl rfl rfl rfl rfl rfl (by simp only [maxLen]; omega) (by omega) ?_); clear E S a; intro a w v31 C31 E S hB31
      refine zp E (zAd E rfl rfl) ?_; clear E a; intro a E
      refine wpList_nil ?_
      refine zBi ?_
      refine zAf hK ?_; clear hK; clear K
      refine zAb ?_
      refine zp E (zBu E rfl rfl rfl (by first | exact zCl (y := 1) (by omega) | exact w_in (by omega) | exact zBt (by omega) | exact rfl)) ?_; clear E a; intro a E
      refine zp E (zAe E rfl rfl) ?_; clear E a; intro a E
      refine wpList_nil ?_
      refine zBq ?_
      exact ⟨_, by omega, j + 1, C31, v31, rfl, by omega, by rw [zBy, ← List.append_assoc, zDu]; exact hB31, S.perm2.tail, E.keep (zAa rfl (zAa rfl (zAa rfl (zAa rfl (zAa rfl (zAa rfl zAm))))))⟩
    · replace hb := Nrm.nrm hb
      refine wp_exit ?_
      refine zBc ?_; clear hK; clear K
      refine zBc ?_
      refine zCj ?_
      refine zBi ?_
      refine zAf hK ?_; clear hK; clear K
      refine zAb ?_
      refine zp E (zBu E rfl rfl rfl (by first | exact zCl (y := 1) (by omega) | exact w_in (by omega) | exact zBt (by omega) | exact rfl)) ?_; clear E a; intro a E
      refine zp E (zAe E rfl rfl) ?_; clear E a; intro a E
      refine wpList_nil ?_
      refine zBq ?_
      obtain rfl : j = 8 := by omega
      exact ⟨_, by omega, i + 1, C, v, rfl, by omega, by rw [zKw hil]; exact hB, S, E.keep (zAa rfl (zAa rfl (zAa rfl (zAa rfl zAm))))⟩
  · replace hb := Nrm.nrm hb
    refine wp_exit ?_
    refine zBc ?_; clear hK; clear K
    refine zBc ?_
    refine zCj ?_
    refine zAf hK ?_; clear hK; clear K
    refine wp_seq_k ?_; intro K hK
    refine zAb ?_
    refine zp E (zAe E rfl rfl) ?_; clear E a; intro a E
    refine zp E (zAd E rfl rfl) ?_; clear E a; intro a E
    refine wpList_nil ?_
    refine zAf hK ?_; clear hK; clear K
    refine wp_ret ?_
    refine ret1 E rfl rfl ?_
    obtain rfl : i = 4 := by omega
    rw [List.take_of_length_le (by omega), hws] at hB
    exact ⟨_, rfl, C, hB, S.perm2.tail.tr⟩
theorem over_ret (s : Fs) (D : zAy) (v : Value) (b : List UInt8) (hD : Rd D 1 v b.length (byt b)) (hbl : b.length ≤ 140737488351000) (As : List zAy) (hDA : D ∈ As) (hG : Tab As 2 shaK) (w0 : World) (H : Hp w0 As) :
    Ret Tryz.prog 31 #[v, s.agg] w0 fun u w' => u = (shaF (zFa s ++ b)).agg ∧ Trs w0 w' As As := by
  have S := St.begin H
  have hsl := zEe s
  refine zCr 16 Tryz.func31 rfl rfl (by decide) ?_; intro a E
  refine wp_seq_k ?_; intro K hK
  refine zAb ?_
  refine zAn rfl (zCt E S rfl rfl (by decide) rfl rfl ?_); clear E S a; intro a w b3 E S
  refine zAn rfl (zBs E S rfl rfl (by decide) rfl rfl rfl ?_); clear E S a; intro a w b4 E S
  refine wpList_nil ?_
  refine zAf hK ?_; clear hK; clear K
  refine wp_seq_k ?_; intro K hK
  refine zAb ?_
  refine zp E (zBp (vs := [_, _, _, _]) E rfl rfl rfl (S.get (by repeat (first | exact pk1 | apply zAc))) rfl rfl) ?_; clear E a; intro a E
  refine zAp E rfl rfl (by decide) rfl Tryz.func32 rfl (by kernel_rfl) rfl (zJc s _ _ S.hp) ?_
  rintro v9 w ⟨C, hC, hT⟩; clear E a; intro a E
  have S := S.all hT
  refine zp E (zAe E rfl rfl) ?_; clear E a; intro a E
  refine zAn rfl (zCq (by' := 1) E S rfl rfl (by decide) rfl rfl hC (by repeat (first | exact pk1 | apply zAc)) (hD.src (S.stab.at (List.Mem.tail _ (List.Mem.tail _ (List.Mem.tail _ hDA)))) rfl) rfl rfl rfl rfl rfl rfl (by simp only [maxLen]; omega) (by omega) ?_); clear E S a; intro a w v11 C11 E S hB11
  have hR : Rd C11 1 v11 (zFa s ++ b).length (byt (zFa s ++ b)) := by rw [List.length_append, hsl, zDu]; exact hB11.rd
  refine zAp E rfl rfl (by decide) rfl Tryz.func76 rfl (by kernel_rfl) rfl (sumof2_ret C11 v11 (zFa s ++ b) hR (by rw [List.length_append]; omega) _ (by repeat (first | exact mm1 | assumption | apply List.Mem.tail)) hG.tail.tail.tail _ S.hp) ?_
  rintro v12 w ⟨rfl, hT⟩; clear E a; intro a E
  have S := S.all hT
  refine zp E (zAe E rfl rfl) ?_; clear E a; intro a E
  iterate 2 (refine zp E (zBm E rfl rfl rfl) ?_; clear E a; intro a E)
  refine zAn rfl (zBs E S rfl rfl (by decide) rfl rfl rfl ?_); clear E S a; intro a w b5 E S
  refine zAn rfl (zAz E S rfl rfl rfl rfl (by simp [Value.oneCell']) rfl (by repeat (first | exact pk1 | apply zAc)) (by simp) ?_); clear E S a; intro a w E S; simp only [List.take_succ_cons, List.take_zero, List.drop_succ_cons, List.drop_zero, List.cons_append, List.nil_append, List.append_nil, List.length_cons, List.length_nil, Nat.zero_add, Nat.add_zero] at S
  refine zp E (zAd E rfl rfl) ?_; clear E a; intro a E
  refine wpList_nil ?_
  refine zAf hK ?_; clear hK; clear K
  refine wp_seq_k ?_; intro K hK
  refine zAb ?_
  refine zp E (zBp (vs := [_, _, _, _]) E rfl rfl rfl (S.get (by repeat (first | exact pk1 | apply zAc))) rfl rfl) ?_; clear E a; intro a E
  refine zAn rfl (zAz E S rfl rfl rfl rfl (by simp [Value.oneCell']) rfl (by repeat (first | exact pk1 | apply zAc)) (by simp) ?_); clear E S a; intro a w E S; simp only [List.take_succ_cons, List.take_zero, List.drop_succ_cons, List.drop_zero, List.cons_append, List.nil_append, List.append_nil, List.length_cons, List.length_nil, Nat.zero_add, Nat.add_zero] at S
  refine wpList_nil ?_
  refine zAf hK ?_; clear hK; clear K
  refine wp_ret ?_
  refine zGs E rfl rfl (S.get (by repeat (first | exact pk1 | apply zAc))) rfl ?_
  exact ⟨_, rfl, rfl, (S.tail3.tail).tr⟩
end Go.Proofs.YtbogecljkaimdaaGreatDoor
namespace Go.Sl
def headB (k : Int) (n : Nat) : List UInt8 := zBy k.toNat 1 ++ zBy n 4
theorem zHp (k : Int) (n : Nat) : (headB k n).length = 5 := by simp [headB, zBh]
def zFq (k : Int) (b : List UInt8) : List UInt8 := headB k b.length ++ b
def ownS (k : Int) (b : List UInt8) (s : Fs) : Fs := shaF (zFa s ++ zFq k b)
def zDc (k : Int) (b : List UInt8) (s : Fs) : List UInt8 := zFq k b ++ zFa (ownS k b s)
theorem zFd (k : Int) (b : List UInt8) : (zFq k b).length = 5 + b.length := by rw [zFq, List.length_append, zHp]
theorem zFx (k : Int) (b : List UInt8) (s : Fs) : (zDc k b s).length = 37 + b.length := by rw [zDc, List.length_append, zFd, zEe]; omega
end Go.Sl
namespace Go.Proofs.YtbogecljkaimdaaGreatDoor
open Go.Sl
set_option maxRecDepth 10000
theorem ckE_no {r : Rec} (h : ckE r ≠ 0) : ckB r = false := by
  cases hc : ckB r with
  | false => rfl
  | true => simp [ckE, hc] at h
theorem ckE_yes {r : Rec} (h : ckE r = 0) : ckB r = true := by
  cases hc : ckB r with
  | true => rfl
  | false => simp [ckE, hc] at h
theorem zKx {r : Rec} (h : ckB r = true) : inK r.kind ∧ mayK r.kind r = true := by
  simp only [ckB, Bool.and_eq_true, decide_eq_true_eq] at h
  exact ⟨h.1, h.2.1⟩
theorem zKy {r : Rec} {k : Int} (hk : inK k) (h : mayK k r = true) : (zDz k r).length ≤ 2048 := by
  rcases zFc hk with rfl | rfl | rfl | rfl | rfl | rfl | rfl
  · have := zJu h
    show (body1 r).length ≤ 2048
    simp only [body1, List.length_append, zDa, zBh]; omega
  · obtain ⟨q1, q2, q3, q4, q5, q6, q7⟩ := (zEh r).1 h
    have h1 := beh_len q1
    have h2 := zHv q6
    have h3 := zJv q7
    have h4 := zKq h3.2
    show (body2 r).length ≤ 2048
    simp only [body2, List.length_append, zDa, zBh]; omega
  · have := zHo (l := r.keep) h
    show (body3 r).length ≤ 2048
    simp only [body3, List.length_append, zFl, zBh]; omega
  · have h : may4 r = true := h
    simp only [may4, Bool.and_eq_true, decide_eq_true_eq] at h
    have := zHo h.2.2
    show (body4 r).length ≤ 2048
    simp only [body4, List.length_append, zFl, zBh]; omega
  · have h : may5 r = true := h
    simp only [may5, Bool.and_eq_true, decide_eq_true_eq] at h
    show (body5 r).length ≤ 2048
    simp only [body5, List.length_append, zBh]; omega
  · show (body6 r).length ≤ 2048
    simp only [body6, zBh]; omega
  · show (body6 r).length ≤ 2048
    simp only [body6, zBh]; omega
def encP (r : Rec) (s : Fs) (As : List zAy) (w0 : World) (u : Value) (w' : World) : Prop :=
  (ckB r = false ∧ u = .tuple #[.slice none 0 0, zEj.agg, .int .i64 200] ∧ Trs w0 w' As As) ∨
  (ckB r = true ∧ ∃ v D, u = .tuple #[v, (ownS r.kind (zDz r.kind r) s).agg, .int .i64 0] ∧ Buf D 5 1 v (zDc r.kind (zDz r.kind r) s).length (byt (zDc r.kind (zDz r.kind r) s)) ∧ Trs w0 w' As (D :: As))
theorem encode_ret {C : zAy} {r : Rec} {pv kv dv : Value} (hR : RecR C r pv kv dv) (hs : Sml r) (s : Fs) {As : List zAy} (hC : C ∈ As) (hG : Tab As 2 shaK) (w0 : World) (H : Hp w0 As) :
    Ret Tryz.prog 12 #[.agg (r.cells pv kv dv).toArray, s.agg] w0 (encP r s As w0) := by
  have S := St.begin H
  obtain ⟨ad1, c1, rfl⟩ := hR.pr.slice
  obtain ⟨ad2, c2, rfl⟩ := hR.kr.slice
  obtain ⟨ad3, c3, rfl⟩ := hR.dr.slice
  refine zCr 62 Tryz.func12 rfl rfl (by decide) ?_; intro a E
  refine wp_seq_k ?_; intro K hK
  refine zAb ?_
  refine zAn rfl (zCt E S rfl rfl (by decide) rfl rfl ?_); clear E S a; intro a w b2 E S
  refine zAn rfl (zCt E S rfl rfl (by decide) rfl rfl ?_); clear E S a; intro a w b3 E S
  refine zp E (zAd E rfl rfl) ?_; clear E a; intro a E
  refine zAn rfl (zBs E S rfl rfl (by decide) rfl rfl rfl ?_); clear E S a; intro a w b5 E S
  refine zp E (zAd E rfl rfl) ?_; clear E a; intro a E
  refine wpList_nil ?_
  refine zAf hK ?_; clear hK; clear K
  iterate 2 (refine wp_seq_k ?_; intro K hK)
  refine zAb ?_
  refine zp E (zBp (vs := [_, _, _, _, _, _, _, _, _, _, _, _, _]) E rfl rfl rfl (S.get (by repeat (first | exact pk1 | apply zAc))) rfl rfl) ?_; clear E a; intro a E
  refine zAp E rfl rfl (by decide) rfl Tryz.func11 rfl (by kernel_rfl) rfl (zKn hR hs (List.mem_cons_of_mem _ (List.mem_cons_of_mem _ (List.mem_cons_of_mem _ hC))) _ S.hp) ?_
  rintro v16 w ⟨rfl, hT⟩; clear E a; intro a E
  have S := S.all hT
  refine zp E (zAd E rfl rfl) ?_; clear E a; intro a E
  refine wpList_nil ?_
  refine zAf hK ?_; clear hK; clear K
  refine wp_seq_k ?_; intro K hK
  refine zAb ?_
  refine zp E (zAe E rfl rfl) ?_; clear E a; intro a E
  refine zp E (by first | exact zCu E rfl rfl rfl | exact zBg E rfl rfl rfl rfl | exact zBr E rfl rfl rfl rfl | exact zBk E rfl rfl rfl) ?_; clear E a; intro a E
  refine wpList_nil ?_
  refine zAf hK ?_; clear hK; clear K
  refine zBf E rfl (fun hb => ?_) (fun hb => ?_)
  · replace hb := Nrm.nrm hb
    have hck := ckE_no hb
    refine wp_seq_k ?_; intro K hK
    refine zAb ?_
    refine zp E (zCh (cells := [_, _, _, _]) E rfl rfl rfl) ?_; clear E a; intro a E
    refine zp E (zAe E rfl rfl) ?_; clear E a; intro a E
    refine zp E (zAd E rfl rfl) ?_; clear E a; intro a E
    refine zAn rfl (zAz E S rfl rfl rfl rfl (by simp [Value.oneCell']) rfl (by repeat (first | exact pk1 | apply zAc)) (by simp) ?_); clear E S a; intro a w E S; simp only [List.take_succ_cons, List.take_zero, List.drop_succ_cons, List.drop_zero, List.cons_append, List.nil_append, List.append_nil, List.length_cons, List.length_nil, Nat.zero_add, Nat.add_zero] at S
    refine zp E (zAd E rfl rfl) ?_; clear E a; intro a E
    refine wpList_nil ?_
    refine zAf hK ?_; clear hK; clear K
    refine wp_ret ?_
    refine zAv ?_; clear hK; clear K
    refine ret_tct E rfl rfl rfl rfl (S.get (by repeat (first | exact pk1 | apply zAc))) rfl ?_
    exact ⟨_, rfl, .inl ⟨hck, by rw [show ckE r = 200 by simp [ckE, hck]]; rfl, S.tail3.tr⟩⟩
  · replace hb := Nrm.nrm hb
    have hck := ckE_yes hb
    refine wp_skip ?_
    refine zAf hK ?_; clear hK; clear K
    refine wp_seq_k ?_; intro K hK
    obtain ⟨hk, hm⟩ := zKx hck
    obtain ⟨fn, q1, q2, q3⟩ := layF_fn hk
    obtain ⟨ix, hrow⟩ := row_is hk
    have hbl := zKy hk hm
    refine zAb ?_
    refine zAp E rfl rfl (by decide) rfl Tryz.func28 rfl (by kernel_rfl) rfl (writer_ret 2048 _) ?_
    rintro v21 w ⟨p, A, rfl, hA, hT⟩; clear E a; intro a E
    have S := S.fresh hT
    refine zp E (zAd E rfl rfl) ?_; clear E a; intro a E
    refine wpList_nil ?_
    refine zAf hK ?_; clear hK; clear K
    refine wp_seq_k ?_; intro K hK
    refine zCz S (.ofL [(1, 0), (2, 0), (5, 0), (6, 0), (0, 1), (3, 1), (4, 0), (7, 3)]) [[(b2, cel (r.cells (.slice ad1 r.props.length c1) (.slice ad2 r.keep.length c2) (.slice ad3 r.data.length c3)) 26)]] (fun h => h.sub (by first | (simp; done) | (simp +contextual; done) | (simp [*]; done))) (by kernel_rfl) (by kernel_rfl) ?_
    clear S; intro w S
    refine zm E rfl (fun w h => by first | exact zAg (q := 0) E rfl rfl rfl | exact zAh (q := 0) E rfl rfl rfl) ?_; clear E a; intro a E
    refine zm E rfl (fun w h => by first | exact zAo E rfl rfl rfl (h.one (by repeat (first | exact mm1 | assumption | apply List.Mem.tail))) rfl | exact zAj E rfl rfl rfl (by assumption)) ?_; clear E a; intro a E
    refine zm E rfl (fun w h => zAe E rfl rfl) ?_; clear E a; intro a E
    refine zm E rfl (fun w h => zBp (vs := [_, _, _, _, _, _, _, _, _, _, _, _, _]) E rfl rfl rfl (h.one (by repeat (first | exact mm1 | assumption | apply List.Mem.tail))) rfl rfl) ?_; clear E a; intro a E
    refine zCc E rfl rfl rfl (by decide) rfl Tryz.func25 rfl (by kernel_rfl) rfl (zJt _ _ S.hp) ?_
    rintro v22 w ⟨g, rfl, hT⟩; clear E a; intro a E
    have S := S.all hT
    refine ⟨S.stab.sub (by first | (simp; done) | (simp +contextual; done) | (simp [*]; done)), ?_⟩
    refine zCp rfl rfl (zGz E (rn_lookup1 (v := .agg [fnv (mayF r.kind), fnv (layF r.kind), fnv (takF r.kind)].toArray) E rfl rfl rfl rfl rfl (S.get (by repeat (first | exact pk1 | apply zAc))) hrow) rfl (by decide) ?_); clear E a; intro a E; refine ⟨S.stab.sub (by first | (simp; done) | (simp +contextual; done) | (simp [*]; done)), ?_⟩
    refine zm E rfl (fun w h => rn_field E rfl rfl rfl rfl rfl rfl rfl) ?_; clear E a; intro a E
    have S := S.front1 (A := A) (by repeat (first | exact pk1 | apply zAc))
    refine mix_callc3 E rfl rfl rfl (by decide) rfl rfl q1 q2 q3 rfl (layK_ret hR (by repeat (first | exact mm1 | assumption | apply List.Mem.tail)) p A hA _ S.hp hk hm) ?_
    rintro v29 w ⟨A1, hA1, hT⟩; clear E a; intro a E
    have S := S.all hT
    refine zBw ?_
    refine zAf hK ?_; clear hK; clear K
    refine wp_seq_k ?_; intro K hK
    obtain ⟨body, hbody⟩ : ∃ body, body = zDz r.kind r := ⟨_, rfl⟩
    rw [← hbody] at hA1 hbl
    refine zAb ?_
    refine zp E (zAe E rfl rfl) ?_; clear E a; intro a E
    refine zAp E rfl rfl (by decide) rfl Tryz.func29 rfl (by kernel_rfl) rfl (done_fit p 2048 body A1 _ hA1 (S.hp.sel (zAk (by repeat (first | exact pk1 | apply zAc)) (zAr _))) (by omega)) ?_
    rintro v32 w ⟨g1, rfl, hT⟩; clear E a; intro a E
    have S := S.call2 (zAk (by repeat (first | exact pk1 | apply zAc)) (zAr _)) hT
    refine zp E (zAe E rfl rfl) ?_; clear E a; intro a E
    iterate 2 (refine zp E (zBm E rfl rfl rfl) ?_; clear E a; intro a E)
    iterate 2 (refine zp E (zAd E rfl rfl) ?_; clear E a; intro a E)
    refine wpList_nil ?_
    refine zAf hK ?_; clear hK; clear K
    refine wp_seq_k ?_; intro K hK
    replace E := E.keep (e' := [(2, _), (3, _), (4, _), (5, _), (6, _), (9, _)]) (zAa rfl (zAa rfl (zAa rfl (zAa rfl (zAa rfl (zAa rfl (zAm)))))))
    refine zAb ?_
    refine zAp E rfl rfl (by decide) rfl Tryz.func28 rfl (by kernel_rfl) rfl (writer_ret 5 _) ?_
    rintro v35 w ⟨p2, B, rfl, hB, hT⟩; clear E a; intro a E
    have S := S.fresh hT
    refine zp E (zAd E rfl rfl) ?_; clear E a; intro a E
    refine wpList_nil ?_
    refine zAf hK ?_; clear hK; clear K
    refine wp_seq_k ?_; intro K hK
    refine zAb ?_
    refine zp E (zAe E rfl rfl) ?_; clear E a; intro a E
    refine zp E (by first | exact zAg (q := 0) E rfl rfl rfl | exact zAh (q := 0) E rfl rfl rfl) ?_; clear E a; intro a E
    refine zp E (by first | exact zAo E rfl rfl rfl (S.get (by repeat (first | exact pk1 | apply zAc))) rfl | exact zAj E rfl rfl rfl (by assumption)) ?_; clear E a; intro a E
    refine zp E (zBe E rfl rfl rfl rfl (zKo (by have := hk.1; omega) (by have := hk.2; omega))) ?_; clear E a; intro a E
    refine zAp E rfl rfl (by decide) rfl Tryz.func30 rfl (by kernel_rfl) rfl (zEx p2 5 [] B _ hB r.kind.toNat 1 (S.hp.sel (zAk (by repeat (first | exact pk1 | apply zAc)) (zAr _))) (by omega) (by omega) (by omega) (by have := hk.2; omega) (by simp only [List.length_nil]; omega)) ?_
    rintro v40 w ⟨B1, hB1, hT⟩; clear E a; intro a E
    have S := S.call1 (zAk (by repeat (first | exact pk1 | apply zAc)) (zAr _)) hT
    refine wpList_nil ?_
    refine zAf hK ?_; clear hK; clear K
    refine wp_seq_k ?_; intro K hK
    refine zAb ?_
    iterate 2 (refine zp E (zAe E rfl rfl) ?_; clear E a; intro a E)
    refine zp E (by first | exact zBx E rfl rfl rfl | exact zAx E rfl rfl rfl | exact zAq E rfl rfl rfl) ?_; clear E a; intro a E
    refine zp E (by first | exact zBe E rfl rfl rfl rfl (by first | exact wu8 _ | exact zDy (by omega) | exact zDd (by omega) | exact w_in (by omega) | exact zBt (by omega) | exact rfl) | exact zCa E rfl rfl rfl rfl rfl (by assumption) (S.stab.at (by simp))) ?_; clear E a; intro a E
    refine zAp E rfl rfl (by decide) rfl Tryz.func30 rfl (by kernel_rfl) rfl (zEx p2 5 _ B1 _ hB1 body.length 4 (S.hp.sel (zAk (by repeat (first | exact pk1 | apply zAc)) (zAr _))) (by omega) (by omega) (by omega) (by omega) (by simp only [List.nil_append, zBh]; omega)) ?_
    rintro v45 w ⟨B2, hB2, hT⟩; clear E a; intro a E
    have S := S.call1 (zAk (by repeat (first | exact pk1 | apply zAc)) (zAr _)) hT
    refine wpList_nil ?_
    refine zAf hK ?_; clear hK; clear K
    refine wp_seq_k ?_; intro K hK
    have hhd : [] ++ zBy r.kind.toNat 1 ++ zBy body.length 4 = headB r.kind body.length := rfl
    rw [hhd] at hB2
    obtain ⟨hd, hhd2⟩ : ∃ hd, hd = headB r.kind body.length := ⟨_, rfl⟩
    rw [← hhd2] at hB2
    have hdl : hd.length = 5 := by rw [hhd2, zHp]
    refine zAb ?_
    refine zp E (zAe E rfl rfl) ?_; clear E a; intro a E
    refine zAp E rfl rfl (by decide) rfl Tryz.func29 rfl (by kernel_rfl) rfl (done_fit p2 5 hd B2 _ hB2 (S.hp.sel (zAk (by repeat (first | exact pk1 | apply zAc)) (zAr _))) (by omega)) ?_
    rintro v48 w ⟨g2, rfl, hT⟩; clear E a; intro a E
    have S := S.call2 (zAk (by repeat (first | exact pk1 | apply zAc)) (zAr _)) hT
    refine zp E (zAe E rfl rfl) ?_; clear E a; intro a E
    iterate 2 (refine zp E (zBm E rfl rfl rfl) ?_; clear E a; intro a E)
    iterate 2 (refine zp E (zAd E rfl rfl) ?_; clear E a; intro a E)
    refine wpList_nil ?_
    refine zAf hK ?_; clear hK; clear K
    refine wp_seq_k ?_; intro K hK
    replace E := E.keep (e' := [(3, _), (4, _), (5, _), (6, _), (9, _), (12, _)]) (zAa rfl (zAa rfl (zAa rfl (zAa rfl (zAa rfl (zAa rfl (zAm)))))))
    refine zAb ?_
    iterate 2 (refine zp E (zAe E rfl rfl) ?_; clear E a; intro a E)
    refine zAn rfl (zCq (by' := 1) E S rfl rfl (by decide) rfl rfl (zIr g2 hd 5 (by omega)) (by repeat (first | exact pk1 | apply zAc)) ((rd_block (g := g1) (b := body) (T := 5) rfl (by omega) body.length).src (S.stab.at (by repeat (first | exact mm1 | assumption | apply List.Mem.tail))) rfl) rfl rfl rfl rfl rfl rfl (by simp only [maxLen]; omega) (by omega) ?_); clear E S a; intro a w v53 C53 E S hB53
    refine zp E (zAd E rfl rfl) ?_; clear E a; intro a E
    refine wpList_nil ?_
    refine zAf hK ?_; clear hK; clear K
    refine wp_seq_k ?_; intro K hK
    obtain ⟨fb, hfb⟩ : ∃ fb, fb = zFq r.kind body := ⟨_, rfl⟩
    have hfl : fb.length = 5 + body.length := by rw [hfb, zFd]
    have hfr : Buf C53 5 1 v53 fb.length (byt fb) := by
      have e5 : fb.length = hd.length + body.length := by omega
      rw [e5, hfb, zFq, ← hhd2, zDu]
      exact hB53
    refine zAb ?_
    refine zp E (zAe E rfl rfl) ?_; clear E a; intro a E
    refine zp E (zBp (vs := [_, _, _, _]) E rfl rfl rfl (S.get (by repeat (first | exact pk1 | apply zAc))) rfl rfl) ?_; clear E a; intro a E
    refine zAp E rfl rfl (by decide) rfl Tryz.func31 rfl (by kernel_rfl) rfl (over_ret s C53 v53 fb hfr.rd (by omega) _ (by repeat (first | exact mm1 | assumption | apply List.Mem.tail)) (by repeat (first | exact hG | apply Tab.tail)) _ S.hp) ?_
    rintro v56 w ⟨he, hT⟩; clear E a; intro a E
    have S := S.all hT; obtain ⟨own, hown⟩ : ∃ own, own = shaF (zFa s ++ fb) := ⟨_, rfl⟩; rw [← hown] at he; subst he
    refine zAn rfl (zBs E S rfl rfl (by decide) rfl rfl rfl ?_); clear E S a; intro a w b14 E S
    refine zAn rfl (zAz E S rfl rfl rfl rfl (by simp [Value.oneCell']) rfl (by repeat (first | exact pk1 | apply zAc)) (by simp) ?_); clear E S a; intro a w E S; simp only [List.take_succ_cons, List.take_zero, List.drop_succ_cons, List.drop_zero, List.cons_append, List.nil_append, List.append_nil, List.length_cons, List.length_nil, Nat.zero_add, Nat.add_zero] at S
    refine wpList_nil ?_
    refine zAf hK ?_; clear hK; clear K
    refine wp_seq_k ?_; intro K hK
    refine zCz S (.ofL [(0, 0), (1, 0), (4, 0), (2, 1), (3, 1), (5, 0), (6, 3), (7, 2)]) [[(b14, cel [.int .u64 own.a, .int .u64 own.b, .int .u64 own.c, .int .u64 own.d] 29)]] (fun h => h.sub (by first | (simp; done) | (simp +contextual; done) | (simp [*]; done))) (by kernel_rfl) (by kernel_rfl) ?_
    clear S; intro w S
    refine zm E rfl (fun w h => zAe E rfl rfl) ?_; clear E a; intro a E
    iterate 2 (refine zm E rfl (fun w h => zBp (vs := [_, _, _, _]) E rfl rfl rfl (h.one (by repeat (first | exact mm1 | assumption | apply List.Mem.tail))) rfl rfl) ?_; clear E a; intro a E)
    refine zCc E rfl rfl rfl (by decide) rfl Tryz.func32 rfl (by kernel_rfl) rfl (zJc own _ _ S.hp) ?_
    rintro v59 w ⟨D2, hD2, hT⟩; clear E a; intro a E
    have S := S.all hT
    refine ⟨S.stab.sub (by first | (simp; done) | (simp +contextual; done) | (simp [*]; done)), ?_⟩
    refine zCp rfl rfl (zCq (by' := 1) E S rfl rfl (by decide) rfl rfl hfr (by repeat (first | exact pk1 | apply zAc)) (hD2.rd.src (S.stab.at (by repeat (first | exact mm1 | assumption | apply List.Mem.tail))) rfl) rfl rfl rfl rfl rfl rfl (by simp only [maxLen]; omega) (by omega) ?_); clear E S a; intro a w v60 C60 E S hB60; refine ⟨S.stab.sub (by first | (simp; done) | (simp +contextual; done) | (simp [*]; done)), ?_⟩
    refine zm E rfl (fun w h => zAd E rfl rfl) ?_; clear E a; intro a E
    refine zCk rfl rfl (zAz E S rfl rfl rfl rfl (by simp [Value.oneCell']) rfl (by repeat (first | exact pk1 | apply zAc)) (by simp) ?_); clear E S a; intro a w E S; simp only [List.take_succ_cons, List.take_zero, List.drop_succ_cons, List.drop_zero, List.cons_append, List.nil_append, List.append_nil, List.length_cons, List.length_nil, Nat.zero_add, Nat.add_zero] at S
    refine zCg E rfl rfl rfl (by decide) (fun w => zAd E rfl rfl) ?_; clear E a; intro a E
    refine zBw ?_
    refine zAf hK ?_; clear hK; clear K
    refine wp_ret ?_
    refine ret_tct E rfl rfl rfl rfl (S.get (by repeat (first | exact pk1 | apply zAc))) rfl ?_
    have hlen := zEe own
    have hpb : zDc r.kind (zDz r.kind r) s = fb ++ zFa own := by rw [zDc, ownS, ← hbody, ← hfb, ← hown]
    have howns : ownS r.kind (zDz r.kind r) s = own := by rw [ownS, ← hbody, ← hfb, ← hown]
    refine ⟨_, rfl, .inr ⟨hck, v60, C60, by rw [howns], ?_, ?_⟩⟩
    · rw [hpb, zDu, List.length_append, hlen]; exact hB60
    · exact (St.drops [_, _, _, _, _, _, _, _, _] (S.front1 (A := C60) (by repeat (first | exact pk1 | apply zAc)))).tr
end Go.Proofs.YtbogecljkaimdaaGreatDoor
namespace Go.Sl
theorem zDk (s : Rdr) (k : Nat) : (s.num k).1 < 256 ^ k := by
  have hp : 0 < 256 ^ k := Nat.pow_pos (by omega)
  unfold Rdr.num
  split
  · exact hp
  · split
    · exact hp
    · split
      · exact hp
      · rw [Int.toNat_natCast]
        exact Nat.lt_of_lt_of_le (zFt _) (Nat.pow_le_pow_right (by omega) (by simp only [Rdr.cut, List.length_take]; omega))
def zGf (size : Nat) (less : Int) (s : Rdr) : Nat → List Int × Rdr
  | 0 => ([], s)
  | i + 1 => ((zGf size less s i).1 ++ [(((zGf size less s i).2.num size).1 : Int) - less], ((zGf size less s i).2.num size).2)
theorem zKz (size : Nat) (less : Int) (s : Rdr) (i : Nat) : (zGf size less s i).1.length = i := by
  induction i with
  | zero => rfl
  | succ i ih => simp [zGf, ih]
def zGi (s : Rdr) (size : Nat) (less : Int) : List Int × Rdr := zGf size less (s.num 2).2 (min (s.num 2).1 241)
def prpS (s : Rdr) : Nat → List Prp × Rdr
  | 0 => ([], s)
  | i + 1 => ((prpS s i).1 ++ [⟨((prpS s i).2.text 24).1, (((prpS s i).2.text 24).2.text 64).1⟩], (((prpS s i).2.text 24).2.text 64).2)
theorem prpS_len (s : Rdr) (i : Nat) : (prpS s i).1.length = i := by
  induction i with
  | zero => rfl
  | succ i ih => simp [prpS, ih]
def zDx (k : Int) : Rec := ⟨k, [], 0, 0, 0, 0, [], [], 0, 0, 0, [], []⟩
def take1 (k : Int) (s : Rdr) : Rec × Rdr := ({ zDx k with name := (s.text 24).1, many := ((s.text 24).2.num 2).1 }, ((s.text 24).2.num 2).2)
def take3 (k : Int) (s : Rdr) : Rec × Rdr := ({ zDx k with keep := (zGi s 4 0).1 }, (zGi s 4 0).2)
def take4 (k : Int) (s : Rdr) : Rec × Rdr := ({ zDx k with object := (s.num 4).1, keep := (zGi (s.num 4).2 2 1).1 }, (zGi (s.num 4).2 2 1).2)
def take5 (k : Int) (s : Rdr) : Rec × Rdr :=
  let a := s.num 4
  let b := a.2.num 2
  let c := b.2.num 2
  let d := c.2.bytes c.1
  ({ zDx k with object := a.1, at_ := (b.1 : Int) - 1, data := d.1 }, d.2)
def take6 (k : Int) (s : Rdr) : Rec × Rdr := ({ zDx k with many := (s.num 4).1 }, (s.num 4).2)
def zIk (k : Int) (s : Rdr) : Rec × Rdr :=
  let n := s.text 240
  let a := n.2.num 1
  let b := a.2.num 6
  let c := b.2.num 6
  let d := c.2.num 1
  let t := d.2.text 24
  let m := t.2.num 1
  let p := prpS m.2 m.1
  ({ zDx k with name := n.1, typ := a.1, frm := b.1, guid := c.1, origin := d.1, snap := t.1, props := p.1 }, p.2)
def zFf (k : Int) (s : Rdr) : Rec × Rdr := if k = 1 then take1 k s else if k = 2 then zIk k s else if k = 3 then take3 k s else if k = 4 then take4 k s else if k = 5 then take5 k s else take6 k s
def RecO (tp ti tu : TypeId) (D : zAy) (r : Rec) (pv kv dv : Value) : Prop := ∃ D1 D2 D3, D = D1 ++ (D2 ++ D3) ∧
  Buf D1 tp 2 pv r.props.length (r.props.flatMap Prp.lay) ∧ Buf D2 ti 1 kv r.keep.length (ints r.keep) ∧ Buf D3 tu 1 dv r.data.length (byt r.data)
theorem RecO.rd {tp ti tu : TypeId} {D : zAy} {r : Rec} {pv kv dv : Value} (h : RecO tp ti tu D r pv kv dv) : RecR D r pv kv dv := by
  obtain ⟨D1, D2, D3, rfl, h1, h2, h3⟩ := h
  exact ⟨h1.rd.sub fun x hx => by simp [hx], h2.rd.sub fun x hx => by simp [hx], h3.rd.sub fun x hx => by simp [hx]⟩
abbrev nilv : Value := .slice none 0 0
end Go.Sl
namespace Go.Proofs.YtbogecljkaimdaaGreatDoor
open Go.Sl
set_option maxRecDepth 10000
abbrev zLa := RecO 70 3 5
theorem keep_ret (p : Nat) (s : Rdr) (A : zAy) (hA : RdC 108 p s A) (size : Nat) (less : Int) (h4 : size ≤ 4) (hl : 0 ≤ less ∧ less ≤ 1) (w0 : World) (H : Hp w0 [A]) :
    Ret Tryz.prog 60 #[ptr p, .int .i64 size, .int .i64 less] w0 fun u w' => ∃ A' C, RdC 108 p (zGi s size less).2 A' ∧ Buf C 3 1 u (zGi s size less).1.length (ints (zGi s size less).1) ∧ Trs w0 w' [A] [A', C] := by
  have S := St.begin H
  have hn2 : (s.num 2).1 < 65536 := zDk s 2
  refine zGk 25 Tryz.func60 rfl rfl (by decide) ?_; intro a E
  refine wp_seq_k ?_; intro K hK
  refine zAb ?_
  refine zp E (zAd E rfl rfl) ?_; clear E a; intro a E
  refine wpList_nil ?_
  refine zAf hK ?_; clear hK; clear K
  refine wp_seq_k ?_; intro K hK
  refine zAb ?_
  refine zp E (zAd E rfl rfl) ?_; clear E a; intro a E
  refine wpList_nil ?_
  refine zAf hK ?_; clear hK; clear K
  iterate 2 (refine wp_seq_k ?_; intro K hK)
  refine zAb ?_
  refine zp E (zAe E rfl rfl) ?_; clear E a; intro a E
  refine zAp E rfl rfl (by decide) rfl Tryz.func44 rfl (by kernel_rfl) rfl (zEn p s A _ hA (S.hp.sel (zAk (by repeat (first | exact pk1 | apply zAc)) (zAr _))) 2) ?_
  rintro v9 w ⟨A1, rfl, hA1, hT⟩; clear E a; intro a E
  replace S := S.call1 (zAk (by repeat (first | exact pk1 | apply zAc)) (zAr _)) hT; obtain ⟨n, hn⟩ : ∃ n, n = (s.num 2).1 := ⟨_, rfl⟩; rw [← hn] at E hn2
  refine zp E (by first | exact zBe E rfl rfl rfl rfl (by first | exact wu8 _ | exact zDy (by omega) | exact zDd (by omega) | exact w_in (by omega) | exact zBt (by omega) | exact rfl) | exact zCa E rfl rfl rfl rfl rfl (by assumption) (S.stab.at (by simp))) ?_; clear E a; intro a E
  refine zp E (rn_min E rfl rfl rfl) ?_; clear E a; intro a E
  obtain ⟨q, hq⟩ : ∃ q, q = min n 241 := ⟨_, rfl⟩; rw [show min (n : Int) 241 = ((q : Nat) : Int) by omega] at E
  refine zp E (zAe E rfl rfl) ?_; clear E a; intro a E
  refine wpList_nil ?_
  refine zAf hK ?_; clear hK; clear K
  refine wp_block ?_
  refine wp_loop_ghost (fun (m : Nat) (a : Act) (w' : World) => ∃ (i : Nat) (A' C : zAy) (v : Value), m = q - i ∧ i ≤ q ∧ RdC 108 p (zGf size less (s.num 2).2 i).2 A' ∧ Buf C 3 1 v i (ints (zGf size less (s.num 2).2 i).1) ∧ St w0 [A] w' [A', C] ∧ Fr a 25 [(0, ptr p), (1, .int .i64 size), (2, .int .i64 less), (7, v), (11, .int .i64 q), (12, .int .i64 i)]) (q) ?_ ?_
  · exact ⟨0, A1, [], _, by omega, by omega, hA1, Buf.nil _ _, S.addNil.perm2, E.keep (zAa rfl (zAa rfl (zAa rfl (zAa rfl (zAa rfl (zAa rfl zAm))))))⟩
  clear E; clear a; (try clear S); rintro m a w ⟨i, A', C, v, rfl, hi, hA', hB, S, E⟩
  refine wp_seq_k ?_; intro K hK
  refine zAb ?_
  refine zp E (zCn E rfl rfl rfl) ?_; clear E a; intro a E
  refine wpList_nil ?_
  refine zAf hK ?_; clear hK; clear K
  refine wp_seq_k ?_; intro K hK
  refine zBf E rfl (fun hb => ?_) (fun hb => ?_)
  · replace hb := Nrm.nrm hb
    refine wp_skip ?_
    refine zAf hK ?_; clear hK; clear K
    refine wp_seq_k ?_; intro K hK
    refine wp_block ?_
    have hlt : ((zGf size less (s.num 2).2 i).2.num size).1 < 4294967296 := Nat.lt_of_lt_of_le (zDk _ size) (Nat.pow_le_pow_right (n := 256) (by omega) h4)
    refine zAb ?_
    iterate 3 (refine zp E (zAe E rfl rfl) ?_; clear E a; intro a E)
    refine zAp E rfl rfl (by decide) rfl Tryz.func44 rfl (by kernel_rfl) rfl (zEn p _ A' _ hA' (S.hp.sel (zAk (by repeat (first | exact pk1 | apply zAc)) (zAr _))) size) ?_
    rintro v17 w ⟨A2, rfl, hA2, hT⟩; clear E a; intro a E
    replace S := S.call1 (zAk (by repeat (first | exact pk1 | apply zAc)) (zAr _)) hT; obtain ⟨x, hx⟩ : ∃ x, x = ((zGf size less (s.num 2).2 i).2.num size).1 := ⟨_, rfl⟩; rw [← hx] at E hlt
    refine zp E (by first | exact zBe E rfl rfl rfl rfl (by first | exact wu8 _ | exact zDy (by omega) | exact zDd (by omega) | exact w_in (by omega) | exact zBt (by omega) | exact rfl) | exact zCa E rfl rfl rfl rfl rfl (by assumption) (S.stab.at (by simp))) ?_; clear E a; intro a E
    refine zp E (zAe E rfl rfl) ?_; clear E a; intro a E
    refine zp E (zDs E rfl rfl rfl (w_in (by omega))) ?_; clear E a; intro a E
    refine zAn rfl (zDg (cells := [_]) E S rfl rfl (by decide) rfl rfl rfl rfl rfl (by decide) rfl ?_); clear E S a; intro a w b21 E S
    refine zAn rfl (zCq (by' := 8) E S rfl rfl (by decide) rfl rfl hB (by repeat (first | exact pk1 | apply zAc)) ((zEp (g := b21) (T := 3) (xs := [.int .i64 ((x : Int) - less)]) (s := 1) (m := 1) rfl (by simp [Value.oneCell']) (by omega) 1).src (S.stab.at (by repeat (first | exact mm1 | assumption | apply List.Mem.tail))) rfl) rfl rfl rfl rfl rfl rfl (by simp only [maxLen]; omega) (by omega) ?_); clear E S a; intro a w v22 C22 E S hB22
    refine zp E (zAd E rfl rfl) ?_; clear E a; intro a E
    refine wpList_nil ?_
    refine zBi ?_
    refine zAf hK ?_; clear hK; clear K
    refine zAb ?_
    refine zp E (zBu E rfl rfl rfl (by first | exact zCl (y := 1) (by omega) | exact w_in (by omega) | exact zBt (by omega) | exact rfl)) ?_; clear E a; intro a E
    refine zp E (zAe E rfl rfl) ?_; clear E a; intro a E
    refine wpList_nil ?_
    refine zBq ?_
    have hB2 : Buf C22 3 1 v22 (i + 1) (ints (zGf size less (s.num 2).2 (i + 1)).1) := by
      rw [zGf, ← hx]; simp only [ints, List.map_append]; exact hB22
    exact ⟨_, by omega, i + 1, A2, C22, v22, rfl, by omega, hA2, hB2, (St.drops2 [_] (S.front2 (A := A2) (B := C22) (by repeat (first | exact pk1 | apply zAc)) (by repeat (first | exact pk1 | apply zAc)))), E.keep (zAa rfl (zAa rfl (zAa rfl (zAa rfl (zAa rfl (zAa rfl zAm))))))⟩
  · replace hb := Nrm.nrm hb
    refine wp_exit ?_
    refine zBc ?_; clear hK; clear K
    refine zBc ?_
    refine zCj ?_
    refine zAf hK ?_; clear hK; clear K
    refine wp_seq_k ?_; intro K hK
    refine zAb ?_
    refine zp E (zAe E rfl rfl) ?_; clear E a; intro a E
    refine zp E (zAd E rfl rfl) ?_; clear E a; intro a E
    refine wpList_nil ?_
    refine zAf hK ?_; clear hK; clear K
    refine wp_ret ?_
    refine ret1 E rfl rfl ?_
    obtain rfl : i = q := by omega
    have hk : zGi s size less = zGf size less (s.num 2).2 i := by rw [zGi, ← hn, ← hq]
    rw [hk, zKz]
    exact ⟨_, rfl, A', C, hA', hB, S.tr⟩
end Go.Proofs.YtbogecljkaimdaaGreatDoor
namespace Go.Proofs.YtbogecljkaimdaaGreatDoor
open Go.Sl
set_option maxRecDepth 10000
section
variable (p b : Nat) (k : Int) (s : Rdr) (A : zAy) (hA : RdC 108 p s A) (w0 : World) (H : Hp w0 [A, [(b, cel ((zDx k).cells nilv nilv nilv) 26)]])
include hA H
theorem take1_ret : Ret Tryz.prog 52 #[ptr p, ptr b] w0 fun _ w' => ∃ A' D pv kv dv, RdC 108 p (take1 k s).2 A' ∧ zLa D (take1 k s).1 pv kv dv ∧ Trs w0 w' [A, [(b, cel ((zDx k).cells nilv nilv nilv) 26)]] [A', [(b, cel ((take1 k s).1.cells pv kv dv) 26)], D] := by
  have S := St.begin H
  have hn : ((s.text 24).2.num 2).1 < 65536 := zDk _ 2
  refine zCr 15 Tryz.func52 rfl rfl (by decide) ?_; intro a E
  refine zAb ?_
  iterate 3 (refine zp E (zAe E rfl rfl) ?_; clear E a; intro a E)
  refine zAp E rfl rfl (by decide) rfl Tryz.func53 rfl (by kernel_rfl) rfl (zHl p s A _ hA (S.hp.sel (zAk (by repeat (first | exact pk1 | apply zAc)) (zAr _))) 24) ?_
  rintro v7 w ⟨A1, rfl, hA1, hT⟩; clear E a; intro a E
  have S := S.call1 (zAk (by repeat (first | exact pk1 | apply zAc)) (zAr _)) hT
  refine zp E (zAe E rfl rfl) ?_; clear E a; intro a E
  refine zAp E rfl rfl (by decide) rfl Tryz.func44 rfl (by kernel_rfl) rfl (zEn p _ A1 _ hA1 (S.hp.sel (zAk (by repeat (first | exact pk1 | apply zAc)) (zAr _))) 2) ?_
  rintro v9 w ⟨A2, rfl, hA2, hT⟩; clear E a; intro a E
  have S := S.call1 (zAk (by repeat (first | exact pk1 | apply zAc)) (zAr _)) hT
  refine zp E (by first | exact zBe E rfl rfl rfl rfl (by first | exact wu8 _ | exact zDy (by omega) | exact zDd (by omega) | exact w_in (by omega) | exact zBt (by omega) | exact rfl) | exact zCa E rfl rfl rfl rfl rfl (by assumption) (S.stab.at (by simp))) ?_; clear E a; intro a E
  refine zp E (zBb E rfl rfl) ?_; clear E a; intro a E
  refine zp E (by first | exact zAg (q := 1) E rfl rfl rfl | exact zAh (q := 1) E rfl rfl rfl) ?_; clear E a; intro a E
  refine zAn rfl (zBo E S rfl rfl rfl rfl rfl rfl (by repeat (first | exact pk1 | apply zAc)) (by first | exact Nat.le_of_ble_eq_true rfl | (simp; done) | (simp; omega)) ?_); clear E S a; intro a w E S; try dsimp only [List.set] at S
  refine zp E (zBb E rfl rfl) ?_; clear E a; intro a E
  refine zp E (by first | exact zAg (q := 10) E rfl rfl rfl | exact zAh (q := 10) E rfl rfl rfl) ?_; clear E a; intro a E
  refine zAn rfl (zBo E S rfl rfl rfl rfl rfl rfl (by repeat (first | exact pk1 | apply zAc)) (by first | exact Nat.le_of_ble_eq_true rfl | (simp; done) | (simp; omega)) ?_); clear E S a; intro a w E S; try dsimp only [List.set] at S
  refine wpList_nil ?_
  refine end0 E rfl ?_
  exact ⟨_, rfl, A2, [], nilv, nilv, nilv, hA2, ⟨[], [], [], rfl, Buf.nil _ _, Buf.nil _ _, Buf.nil _ _⟩, (S.addNil.perm (Bs := [A2, _, []]) (zAk (by repeat (first | exact pk1 | apply zAc)) (zAk (by repeat (first | exact pk1 | apply zAc)) (zAk (by repeat (first | exact pk1 | apply zAc)) (zAr _))))).tr⟩
theorem take3_ret : Ret Tryz.prog 59 #[ptr p, ptr b] w0 fun _ w' => ∃ A' D pv kv dv, RdC 108 p (take3 k s).2 A' ∧ zLa D (take3 k s).1 pv kv dv ∧ Trs w0 w' [A, [(b, cel ((zDx k).cells nilv nilv nilv) 26)]] [A', [(b, cel ((take3 k s).1.cells pv kv dv) 26)], D] := by
  have S := St.begin H
  refine zCr 9 Tryz.func59 rfl rfl (by decide) ?_; intro a E
  refine zAb ?_
  iterate 2 (refine zp E (zAe E rfl rfl) ?_; clear E a; intro a E)
  refine zAp E rfl rfl (by decide) rfl Tryz.func60 rfl (by kernel_rfl) rfl (keep_ret p s A hA 4 0 (by omega) (by omega) _ (S.hp.sel (zAk (by repeat (first | exact pk1 | apply zAc)) (zAr _)))) ?_
  rintro v6 w ⟨A1, C, hA1, hC, hT⟩; clear E a; intro a E
  have S := S.call2 (zAk (by repeat (first | exact pk1 | apply zAc)) (zAr _)) hT; obtain ⟨ad, c, rfl⟩ := hC.slice
  refine zp E (zBb E rfl rfl) ?_; clear E a; intro a E
  refine zp E (by first | exact zAg (q := 11) E rfl rfl rfl | exact zAh (q := 11) E rfl rfl rfl) ?_; clear E a; intro a E
  refine zAn rfl (zBo E S rfl rfl rfl rfl rfl rfl (by repeat (first | exact pk1 | apply zAc)) (by first | exact Nat.le_of_ble_eq_true rfl | (simp; done) | (simp; omega)) ?_); clear E S a; intro a w E S; try dsimp only [List.set] at S
  refine wpList_nil ?_
  refine end0 E rfl ?_
  exact ⟨_, rfl, A1, C, nilv, _, nilv, hA1, ⟨[], C, [], by simp, Buf.nil _ _, hC, Buf.nil _ _⟩, (S.perm (Bs := [A1, _, C]) (zAk (by repeat (first | exact pk1 | apply zAc)) (zAk (by repeat (first | exact pk1 | apply zAc)) (zAk (by repeat (first | exact pk1 | apply zAc)) (zAr _))))).tr⟩
theorem take4_ret : Ret Tryz.prog 63 #[ptr p, ptr b] w0 fun _ w' => ∃ A' D pv kv dv, RdC 108 p (take4 k s).2 A' ∧ zLa D (take4 k s).1 pv kv dv ∧ Trs w0 w' [A, [(b, cel ((zDx k).cells nilv nilv nilv) 26)]] [A', [(b, cel ((take4 k s).1.cells pv kv dv) 26)], D] := by
  have S := St.begin H
  have hn : (s.num 4).1 < 4294967296 := zDk _ 4
  refine zCr 15 Tryz.func63 rfl rfl (by decide) ?_; intro a E
  refine zAb ?_
  iterate 3 (refine zp E (zAe E rfl rfl) ?_; clear E a; intro a E)
  refine zAp E rfl rfl (by decide) rfl Tryz.func44 rfl (by kernel_rfl) rfl (zEn p s A _ hA (S.hp.sel (zAk (by repeat (first | exact pk1 | apply zAc)) (zAr _))) 4) ?_
  rintro v7 w ⟨A1, rfl, hA1, hT⟩; clear E a; intro a E
  have S := S.call1 (zAk (by repeat (first | exact pk1 | apply zAc)) (zAr _)) hT
  refine zp E (by first | exact zBe E rfl rfl rfl rfl (by first | exact wu8 _ | exact zDy (by omega) | exact zDd (by omega) | exact w_in (by omega) | exact zBt (by omega) | exact rfl) | exact zCa E rfl rfl rfl rfl rfl (by assumption) (S.stab.at (by simp))) ?_; clear E a; intro a E
  refine zp E (zAe E rfl rfl) ?_; clear E a; intro a E
  refine zAp E rfl rfl (by decide) rfl Tryz.func60 rfl (by kernel_rfl) rfl (keep_ret p _ A1 hA1 2 1 (by omega) (by omega) _ (S.hp.sel (zAk (by repeat (first | exact pk1 | apply zAc)) (zAr _)))) ?_
  rintro v10 w ⟨A2, C, hA2, hC, hT⟩; clear E a; intro a E
  have S := S.call2 (zAk (by repeat (first | exact pk1 | apply zAc)) (zAr _)) hT; obtain ⟨ad, c, rfl⟩ := hC.slice
  refine zp E (zBb E rfl rfl) ?_; clear E a; intro a E
  refine zp E (by first | exact zAg (q := 8) E rfl rfl rfl | exact zAh (q := 8) E rfl rfl rfl) ?_; clear E a; intro a E
  refine zAn rfl (zBo E S rfl rfl rfl rfl rfl rfl (by repeat (first | exact pk1 | apply zAc)) (by first | exact Nat.le_of_ble_eq_true rfl | (simp; done) | (simp; omega)) ?_); clear E S a; intro a w E S; try dsimp only [List.set] at S
  refine zp E (zBb E rfl rfl) ?_; clear E a; intro a E
  refine zp E (by first | exact zAg (q := 11) E rfl rfl rfl | exact zAh (q := 11) E rfl rfl rfl) ?_; clear E a; intro a E
  refine zAn rfl (zBo E S rfl rfl rfl rfl rfl rfl (by repeat (first | exact pk1 | apply zAc)) (by first | exact Nat.le_of_ble_eq_true rfl | (simp; done) | (simp; omega)) ?_); clear E S a; intro a w E S; try dsimp only [List.set] at S
  refine wpList_nil ?_
  refine end0 E rfl ?_
  exact ⟨_, rfl, A2, C, nilv, _, nilv, hA2, ⟨[], C, [], by simp, Buf.nil _ _, hC, Buf.nil _ _⟩, (S.perm (Bs := [A2, _, C]) (zAk (by repeat (first | exact pk1 | apply zAc)) (zAk (by repeat (first | exact pk1 | apply zAc)) (zAk (by repeat (first | exact pk1 | apply zAc)) (zAr _))))).tr⟩
theorem take5_ret : Ret Tryz.prog 67 #[ptr p, ptr b] w0 fun _ w' => ∃ A' D pv kv dv, RdC 108 p (take5 k s).2 A' ∧ zLa D (take5 k s).1 pv kv dv ∧ Trs w0 w' [A, [(b, cel ((zDx k).cells nilv nilv nilv) 26)]] [A', [(b, cel ((take5 k s).1.cells pv kv dv) 26)], D] := by
  have S := St.begin H
  have hn : (s.num 4).1 < 4294967296 := zDk _ 4
  have hn2 : ((s.num 4).2.num 2).1 < 65536 := zDk _ 2
  have hn3 : (((s.num 4).2.num 2).2.num 2).1 < 65536 := zDk _ 2
  refine zCr 25 Tryz.func67 rfl rfl (by decide) ?_; intro a E
  refine wp_seq_k ?_; intro K hK
  refine zAb ?_
  iterate 3 (refine zp E (zAe E rfl rfl) ?_; clear E a; intro a E)
  refine zAp E rfl rfl (by decide) rfl Tryz.func44 rfl (by kernel_rfl) rfl (zEn p s A _ hA (S.hp.sel (zAk (by repeat (first | exact pk1 | apply zAc)) (zAr _))) 4) ?_
  rintro v7 w ⟨A1, rfl, hA1, hT⟩; clear E a; intro a E
  have S := S.call1 (zAk (by repeat (first | exact pk1 | apply zAc)) (zAr _)) hT
  refine zp E (by first | exact zBe E rfl rfl rfl rfl (by first | exact wu8 _ | exact zDy (by omega) | exact zDd (by omega) | exact w_in (by omega) | exact zBt (by omega) | exact rfl) | exact zCa E rfl rfl rfl rfl rfl (by assumption) (S.stab.at (by simp))) ?_; clear E a; intro a E
  refine zp E (zAe E rfl rfl) ?_; clear E a; intro a E
  refine zAp E rfl rfl (by decide) rfl Tryz.func44 rfl (by kernel_rfl) rfl (zEn p _ A1 _ hA1 (S.hp.sel (zAk (by repeat (first | exact pk1 | apply zAc)) (zAr _))) 2) ?_
  rintro v10 w ⟨A2, rfl, hA2, hT⟩; clear E a; intro a E
  have S := S.call1 (zAk (by repeat (first | exact pk1 | apply zAc)) (zAr _)) hT
  refine zp E (by first | exact zBe E rfl rfl rfl rfl (by first | exact wu8 _ | exact zDy (by omega) | exact zDd (by omega) | exact w_in (by omega) | exact zBt (by omega) | exact rfl) | exact zCa E rfl rfl rfl rfl rfl (by assumption) (S.stab.at (by simp))) ?_; clear E a; intro a E
  refine zp E (zDs E rfl rfl rfl (w_in (by omega))) ?_; clear E a; intro a E
  refine zp E (zBb E rfl rfl) ?_; clear E a; intro a E
  refine zp E (by first | exact zAg (q := 8) E rfl rfl rfl | exact zAh (q := 8) E rfl rfl rfl) ?_; clear E a; intro a E
  refine zAn rfl (zBo E S rfl rfl rfl rfl rfl rfl (by repeat (first | exact pk1 | apply zAc)) (by first | exact Nat.le_of_ble_eq_true rfl | (simp; done) | (simp; omega)) ?_); clear E S a; intro a w E S; try dsimp only [List.set] at S
  refine zp E (zBb E rfl rfl) ?_; clear E a; intro a E
  refine zp E (by first | exact zAg (q := 9) E rfl rfl rfl | exact zAh (q := 9) E rfl rfl rfl) ?_; clear E a; intro a E
  refine zAn rfl (zBo E S rfl rfl rfl rfl rfl rfl (by repeat (first | exact pk1 | apply zAc)) (by first | exact Nat.le_of_ble_eq_true rfl | (simp; done) | (simp; omega)) ?_); clear E S a; intro a w E S; try dsimp only [List.set] at S
  refine wpList_nil ?_
  refine zAf hK ?_; clear hK; clear K
  refine zAb ?_
  iterate 3 (refine zp E (zAe E rfl rfl) ?_; clear E a; intro a E)
  refine zAp E rfl rfl (by decide) rfl Tryz.func44 rfl (by kernel_rfl) rfl (zEn p _ A2 _ hA2 (S.hp.sel (zAk (by repeat (first | exact pk1 | apply zAc)) (zAr _))) 2) ?_
  rintro v20 w ⟨A3, rfl, hA3, hT⟩; clear E a; intro a E
  have S := S.call1 (zAk (by repeat (first | exact pk1 | apply zAc)) (zAr _)) hT
  refine zp E (by first | exact zBe E rfl rfl rfl rfl (by first | exact wu8 _ | exact zDy (by omega) | exact zDd (by omega) | exact w_in (by omega) | exact zBt (by omega) | exact rfl) | exact zCa E rfl rfl rfl rfl rfl (by assumption) (S.stab.at (by simp))) ?_; clear E a; intro a E
  refine zAp E rfl rfl (by decide) rfl Tryz.func68 rfl (by kernel_rfl) rfl (rbytes_ret p _ A3 _ hA3 (S.hp.sel (zAk (by repeat (first | exact pk1 | apply zAc)) (zAr _))) (((s.num 4).2.num 2).2.num 2).1 (by omega)) ?_
  rintro v22 w ⟨A4, C, hA4, hT, hC⟩; clear E a; intro a E
  have S := S.call2 (zAk (by repeat (first | exact pk1 | apply zAc)) (zAr _)) hT; obtain ⟨ad, c, rfl⟩ := hC.slice
  refine zp E (zBb E rfl rfl) ?_; clear E a; intro a E
  refine zp E (by first | exact zAg (q := 12) E rfl rfl rfl | exact zAh (q := 12) E rfl rfl rfl) ?_; clear E a; intro a E
  refine zAn rfl (zBo E S rfl rfl rfl rfl rfl rfl (by repeat (first | exact pk1 | apply zAc)) (by first | exact Nat.le_of_ble_eq_true rfl | (simp; done) | (simp; omega)) ?_); clear E S a; intro a w E S; try dsimp only [List.set] at S
  refine wpList_nil ?_
  refine end0 E rfl ?_
  exact ⟨_, rfl, A4, C, nilv, nilv, _, hA4, ⟨[], [], C, by simp, Buf.nil _ _, Buf.nil _ _, hC⟩, (S.perm (Bs := [A4, _, C]) (zAk (by repeat (first | exact pk1 | apply zAc)) (zAk (by repeat (first | exact pk1 | apply zAc)) (zAk (by repeat (first | exact pk1 | apply zAc)) (zAr _))))).tr⟩
theorem take6_ret : Ret Tryz.prog 101 #[ptr p, ptr b] w0 fun _ w' => ∃ A' D pv kv dv, RdC 108 p (take6 k s).2 A' ∧ zLa D (take6 k s).1 pv kv dv ∧ Trs w0 w' [A, [(b, cel ((zDx k).cells nilv nilv nilv) 26)]] [A', [(b, cel ((take6 k s).1.cells pv kv dv) 26)], D] := by
  have S := St.begin H
  have hn : (s.num 4).1 < 4294967296 := zDk _ 4
  refine zCr 10 Tryz.func101 rfl rfl (by decide) ?_; intro a E
  refine zAb ?_
  iterate 2 (refine zp E (zAe E rfl rfl) ?_; clear E a; intro a E)
  refine zAp E rfl rfl (by decide) rfl Tryz.func44 rfl (by kernel_rfl) rfl (zEn p s A _ hA (S.hp.sel (zAk (by repeat (first | exact pk1 | apply zAc)) (zAr _))) 4) ?_
  rintro v6 w ⟨A1, rfl, hA1, hT⟩; clear E a; intro a E
  have S := S.call1 (zAk (by repeat (first | exact pk1 | apply zAc)) (zAr _)) hT
  refine zp E (by first | exact zBe E rfl rfl rfl rfl (by first | exact wu8 _ | exact zDy (by omega) | exact zDd (by omega) | exact w_in (by omega) | exact zBt (by omega) | exact rfl) | exact zCa E rfl rfl rfl rfl rfl (by assumption) (S.stab.at (by simp))) ?_; clear E a; intro a E
  refine zp E (zBb E rfl rfl) ?_; clear E a; intro a E
  refine zp E (by first | exact zAg (q := 10) E rfl rfl rfl | exact zAh (q := 10) E rfl rfl rfl) ?_; clear E a; intro a E
  refine zAn rfl (zBo E S rfl rfl rfl rfl rfl rfl (by repeat (first | exact pk1 | apply zAc)) (by first | exact Nat.le_of_ble_eq_true rfl | (simp; done) | (simp; omega)) ?_); clear E S a; intro a w E S; try dsimp only [List.set] at S
  refine wpList_nil ?_
  refine end0 E rfl ?_
  exact ⟨_, rfl, A1, [], nilv, nilv, nilv, hA1, ⟨[], [], [], rfl, Buf.nil _ _, Buf.nil _ _, Buf.nil _ _⟩, (S.addNil.perm (Bs := [A1, _, []]) (zAk (by repeat (first | exact pk1 | apply zAc)) (zAk (by repeat (first | exact pk1 | apply zAc)) (zAk (by repeat (first | exact pk1 | apply zAc)) (zAr _))))).tr⟩
end
end Go.Proofs.YtbogecljkaimdaaGreatDoor
