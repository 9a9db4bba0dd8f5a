/-
  Texts put together (3).
-/
import Derived.Test.YtbogecljkaimdaaGreatDoorZRecordWrites2
namespace Go.Sl
theorem s8_at (s : S8) {i : Nat} (h : i < 8) : (u32s s.l)[i]? = some (.int .u32 (s.l.getD i 0)) := zLe s.l h
theorem lenB_succ (n k : Nat) : lenB n (k + 1) = lenB n k ++ [UInt8.ofNat (n / 2 ^ (56 - 8 * k))] := rfl
theorem zLf (all : List UInt8) {k : Nat} (h : 64 * k + 64 ≤ all.length) : (blk all k).length = 64 := by rw [blk, List.length_take, List.length_drop]; omega
theorem zKi {n : Nat} (h : n ≤ 140737488352000) : n + 1 + padZ n + 8 ≤ 140737488352100 := by unfold padZ; omega
end Go.Sl
namespace Go.Proofs.YtbogecljkaimdaaGreatDoor
open Go.Sl
set_option maxRecDepth 10000
theorem mixed_ret (s0 : S8) (ws : List Int) (hw : ws.length = 64) (As : List zAw) (hG : Tab As 2 shaK) (w0 : World) (H : Hp w0 As) :
    Ret Tryz.prog 118 #[.agg (u32s s0.l).toArray, .agg (u32s ws).toArray] w0 fun u w' => u = .agg (u32s (s0.add (s0.mix shaK ws 64)).l).toArray ∧ Trs w0 w' As As := by
  have S := St.begin H
  have hul : (u32s ws).length = 64 := by rw [List.length_map, hw]
  refine zCl 119 Tryz.func118 rfl rfl (by decide) ?_; intro a E
  refine wp_seq_k ?_; intro K hK
  refine zAb ?_
  refine zAo rfl (zCm E S rfl rfl (by decide) rfl rfl ?_); clear E S a; intro a w b2 E S
  refine zAo rfl (zCm E S rfl rfl (by decide) rfl rfl ?_); clear E S a; intro a w b3 E S
  refine zAo rfl (zBy E S rfl rfl (by decide) rfl rfl rfl ?_); clear E S a; intro a w b4 E S
  refine wpList_nil ?_
  refine zAf hK ?_; clear hK; clear K
  refine wp_seq_k ?_; intro K hK
  refine zCb S (.ofL [(0, 0), (1, 0), (2, 0), (3, 0), (4, 0), (5, 0), (6, 0), (7, 0), (8, 0), (9, 0), (10, 0), (11, 0), (12, 0), (13, 0), (14, 0), (15, 0), (16, 0), (17, 0), (18, 0), (19, 0), (20, 0), (21, 0), (22, 0), (23, 0)]) (by kernel_rfl) (by kernel_rfl) ?_
  clear S; intro w S
  refine zm E rfl (fun w h => zCp (i := 0) E rfl rfl rfl rfl rfl rfl (by omega)) ?_; clear E a; intro a E
  refine zm E rfl (fun w h => by first | exact zAn E rfl rfl rfl (h.one (by repeat (first | exact mm1 | assumption | apply List.Mem.tail))) rfl | exact zAj E rfl rfl rfl (by assumption)) ?_; clear E a; intro a E
  refine zm E rfl (fun w h => zCp (i := 1) E rfl rfl rfl rfl rfl rfl (by omega)) ?_; clear E a; intro a E
  refine zm E rfl (fun w h => by first | exact zAn E rfl rfl rfl (h.one (by repeat (first | exact mm1 | assumption | apply List.Mem.tail))) rfl | exact zAj E rfl rfl rfl (by assumption)) ?_; clear E a; intro a E
  refine zm E rfl (fun w h => zCp (i := 2) E rfl rfl rfl rfl rfl rfl (by omega)) ?_; clear E a; intro a E
  refine zm E rfl (fun w h => by first | exact zAn E rfl rfl rfl (h.one (by repeat (first | exact mm1 | assumption | apply List.Mem.tail))) rfl | exact zAj E rfl rfl rfl (by assumption)) ?_; clear E a; intro a E
  refine zm E rfl (fun w h => zCp (i := 3) E rfl rfl rfl rfl rfl rfl (by omega)) ?_; clear E a; intro a E
  refine zm E rfl (fun w h => by first | exact zAn E rfl rfl rfl (h.one (by repeat (first | exact mm1 | assumption | apply List.Mem.tail))) rfl | exact zAj E rfl rfl rfl (by assumption)) ?_; clear E a; intro a E
  refine zm E rfl (fun w h => zCp (i := 4) E rfl rfl rfl rfl rfl rfl (by omega)) ?_; clear E a; intro a E
  refine zm E rfl (fun w h => by first | exact zAn E rfl rfl rfl (h.one (by repeat (first | exact mm1 | assumption | apply List.Mem.tail))) rfl | exact zAj E rfl rfl rfl (by assumption)) ?_; clear E a; intro a E
  refine zm E rfl (fun w h => zCp (i := 5) E rfl rfl rfl rfl rfl rfl (by omega)) ?_; clear E a; intro a E
  refine zm E rfl (fun w h => by first | exact zAn E rfl rfl rfl (h.one (by repeat (first | exact mm1 | assumption | apply List.Mem.tail))) rfl | exact zAj E rfl rfl rfl (by assumption)) ?_; clear E a; intro a E
  refine zm E rfl (fun w h => zCp (i := 6) E rfl rfl rfl rfl rfl rfl (by omega)) ?_; clear E a; intro a E
  refine zm E rfl (fun w h => by first | exact zAn E rfl rfl rfl (h.one (by repeat (first | exact mm1 | assumption | apply List.Mem.tail))) rfl | exact zAj E rfl rfl rfl (by assumption)) ?_; clear E a; intro a E
  refine zm E rfl (fun w h => zCp (i := 7) E rfl rfl rfl rfl rfl rfl (by omega)) ?_; clear E a; intro a E
  refine zm E rfl (fun w h => by first | exact zAn E rfl rfl rfl (h.one (by repeat (first | exact mm1 | assumption | apply List.Mem.tail))) rfl | exact zAj E rfl rfl rfl (by assumption)) ?_; clear E a; intro a E
  iterate 8 (refine zm E rfl (fun w h => zAd E rfl rfl) ?_; clear E a; intro a E)
  refine zBz ?_
  refine zAf hK ?_; clear hK; clear K
  iterate 2 (refine wp_seq_k ?_; intro K hK)
  replace E := E.keep (e' := [(2, _), (3, _), (4, _), (5, _), (6, _), (7, _), (8, _), (9, _), (10, _), (11, _), (12, _)]) (zAa rfl (zAa rfl (zAa rfl (zAa rfl (zAa rfl (zAa rfl (zAa rfl (zAa rfl (zAa rfl (zAa rfl (zAa rfl (zAm))))))))))))
  refine zAb ?_
  refine zp E (zFo E rfl rfl rfl (S.get (by repeat (first | exact pk1 | apply zAc))) hul) ?_; clear E a; intro a E
  refine zp E (zAe E rfl rfl) ?_; clear E a; intro a E
  refine wpList_nil ?_
  refine zAf hK ?_; clear hK; clear K
  refine wp_block ?_
  refine wp_loop_ghost (fun (m : Nat) (a : Act) (w' : World) => ∃ (i : Nat) (s : S8), m = 64 - i ∧ i ≤ 64 ∧ s = S8.mix s0 shaK ws i ∧ St w0 As w' ([(b4, cel (List.replicate 8 (.int .u32 0)) 122)] :: [(b3, cel (u32s ws) 127)] :: [(b2, cel (u32s s0.l) 122)] :: As) ∧ Fr a 119 [(2, ptr b2), (4, ptr b4), (5, .int .u32 s.a), (6, .int .u32 s.b), (7, .int .u32 s.c), (8, .int .u32 s.d), (9, .int .u32 s.e), (10, .int .u32 s.f), (11, .int .u32 s.g), (12, .int .u32 s.h), (35, .agg (u32s ws).toArray), (36, .int .i64 i)]) (64 - 0) ?_ ?_
  · exact ⟨0, s0, rfl, by omega, rfl, S, E.keep (zAa rfl (zAa rfl (zAa rfl (zAa rfl (zAa rfl (zAa rfl (zAa rfl (zAa rfl (zAa rfl (zAa rfl (zAa rfl (zAa rfl zAm))))))))))))⟩
  clear E; clear a; (try clear S); rintro m a w ⟨i, s, rfl, hi, hs, S, E⟩
  refine wp_seq_k ?_; intro K hK
  refine zAb ?_
  refine zp E (zCk E rfl rfl rfl) ?_; clear E a; intro a E
  refine wpList_nil ?_
  refine zAf hK ?_; clear hK; clear K
  refine wp_seq_k ?_; intro K hK
  refine zBh E rfl (fun hb => ?_) (fun hb => ?_)
  · replace hb := Nrm.nrm hb
    refine wp_skip ?_
    refine zAf hK ?_; clear hK; clear K
    refine wp_seq_k ?_; intro K hK
    refine wp_block ?_
    refine wp_seq_k ?_; intro K hK
    refine zAb ?_
    refine zp E (zAe E rfl rfl) ?_; clear E a; intro a E
    refine zp E (zIz E rfl rfl rfl rfl rfl rfl rfl (by omega) (v := .int .u32 (ws.getD i 0)) (by rw [List.getElem?_toArray]; exact zLe ws (by omega))) ?_; clear E a; intro a E
    iterate 2 (refine zp E (zAd E rfl rfl) ?_; clear E a; intro a E)
    refine wpList_nil ?_
    refine zAf hK ?_; clear hK; clear K
    refine wp_seq_k ?_; intro K hK
    refine zCb S (.ofL [(0, 0), (1, 0), (3, 0), (6, 0), (10, 0), (11, 0), (12, 0), (13, 0), (14, 0), (15, 0), (16, 0), (17, 0), (19, 0), (20, 0), (21, 0), (23, 0), (2, 1), (4, 1), (5, 0), (7, 1), (8, 0), (9, 0), (18, 0), (22, 0), (24, 0), (25, 0)]) (by kernel_rfl) (by kernel_rfl) ?_
    clear S; intro w S
    iterate 6 (refine zm E rfl (fun w h => zAe E rfl rfl) ?_; clear E a; intro a E)
    refine zm E rfl (fun w h => zGt E rfl rfl rfl rfl) ?_; clear E a; intro a E
    refine zm E rfl (fun w h => zAe E rfl rfl) ?_; clear E a; intro a E
    refine zm E rfl (fun w h => rn_com E rfl rfl rfl) ?_; clear E a; intro a E
    refine zm E rfl (fun w h => zAe E rfl rfl) ?_; clear E a; intro a E
    refine zm E rfl (fun w h => zGt E rfl rfl rfl rfl) ?_; clear E a; intro a E
    refine zm E rfl (fun w h => zEv E rfl rfl rfl rfl) ?_; clear E a; intro a E
    refine zm E rfl (fun w h => zAe E rfl rfl) ?_; clear E a; intro a E
    refine zm E rfl (fun w h => zCp (i := i) E rfl rfl rfl rfl rfl rfl (by omega)) ?_; clear E a; intro a E
    refine zm E rfl (fun w h => zAj E rfl rfl rfl (hG.tail.tail.tail.cell h (j := i) (by rw [shaK_len]; omega))) ?_; clear E a; intro a E
    refine zm E rfl (fun w h => zAe E rfl rfl) ?_; clear E a; intro a E
    refine zCd E rfl rfl rfl (by decide) rfl Tryz.func130 rfl (by kernel_rfl) rfl (zHr s.e 6 (by omega) _) ?_
    rintro v42 w ⟨rfl, hT⟩; clear E a; intro a E
    have S := S.quiet hT
    refine ⟨S.stab.sub (by first | (simp; done) | (simp +contextual; done) | (simp [*]; done)), ?_⟩
    refine zCd E rfl rfl rfl (by decide) rfl Tryz.func130 rfl (by kernel_rfl) rfl (zHr s.e 11 (by omega) _) ?_
    rintro v44 w ⟨rfl, hT⟩; clear E a; intro a E
    have S := S.quiet hT
    refine ⟨S.stab.sub (by first | (simp; done) | (simp +contextual; done) | (simp [*]; done)), ?_⟩
    refine zm E rfl (fun w h => zEv E rfl rfl rfl rfl) ?_; clear E a; intro a E
    refine zCd E rfl rfl rfl (by decide) rfl Tryz.func130 rfl (by kernel_rfl) rfl (zHr s.e 25 (by omega) _) ?_
    rintro v47 w ⟨rfl, hT⟩; clear E a; intro a E
    have S := S.quiet hT
    refine ⟨S.stab.sub (by first | (simp; done) | (simp +contextual; done) | (simp [*]; done)), ?_⟩
    refine zm E rfl (fun w h => zEv E rfl rfl rfl rfl) ?_; clear E a; intro a E
    iterate 4 (refine zm E rfl (fun w h => zBt E rfl rfl rfl (by first | exact wa1 (by omega) | exact w_in (by omega) | exact zBw (by omega) | exact rfl)) ?_; clear E a; intro a E)
    refine zm E rfl (fun w h => zAd E rfl rfl) ?_; clear E a; intro a E
    refine zBz ?_
    refine zAf hK ?_; clear hK; clear K
    refine wp_seq_k ?_; intro K hK
    refine zAb ?_
    refine zp E (zAe E rfl rfl) ?_; clear E a; intro a E
    refine zAp E rfl rfl (by decide) rfl Tryz.func130 rfl (by kernel_rfl) rfl (zHr s.a 2 (by omega) _) ?_
    rintro v66 w ⟨rfl, hT⟩; clear E a; intro a E
    have S := S.quiet hT
    refine zp E (zAe E rfl rfl) ?_; clear E a; intro a E
    refine zAp E rfl rfl (by decide) rfl Tryz.func130 rfl (by kernel_rfl) rfl (zHr s.a 13 (by omega) _) ?_
    rintro v68 w ⟨rfl, hT⟩; clear E a; intro a E
    have S := S.quiet hT
    refine zp E (zEv E rfl rfl rfl rfl) ?_; clear E a; intro a E
    refine zp E (zAe E rfl rfl) ?_; clear E a; intro a E
    refine zAp E rfl rfl (by decide) rfl Tryz.func130 rfl (by kernel_rfl) rfl (zHr s.a 22 (by omega) _) ?_
    rintro v71 w ⟨rfl, hT⟩; clear E a; intro a E
    have S := S.quiet hT
    refine zp E (zEv E rfl rfl rfl rfl) ?_; clear E a; intro a E
    iterate 2 (refine zp E (zAe E rfl rfl) ?_; clear E a; intro a E)
    refine zp E (zGt E rfl rfl rfl rfl) ?_; clear E a; intro a E
    iterate 2 (refine zp E (zAe E rfl rfl) ?_; clear E a; intro a E)
    refine zp E (zGt E rfl rfl rfl rfl) ?_; clear E a; intro a E
    refine zp E (zEv E rfl rfl rfl rfl) ?_; clear E a; intro a E
    iterate 2 (refine zp E (zAe E rfl rfl) ?_; clear E a; intro a E)
    refine zp E (zGt E rfl rfl rfl rfl) ?_; clear E a; intro a E
    refine zp E (zEv E rfl rfl rfl rfl) ?_; clear E a; intro a E
    refine zp E (zBt E rfl rfl rfl (by first | exact wa1 (by omega) | exact w_in (by omega) | exact zBw (by omega) | exact rfl)) ?_; clear E a; intro a E
    refine zp E (zAd E rfl rfl) ?_; clear E a; intro a E
    refine wpList_nil ?_
    refine zAf hK ?_; clear hK; clear K
    refine zAb ?_
    iterate 5 (refine zp E (zAe E rfl rfl) ?_; clear E a; intro a E)
    refine zp E (zBt E rfl rfl rfl (by first | exact wa1 (by omega) | exact w_in (by omega) | exact zBw (by omega) | exact rfl)) ?_; clear E a; intro a E
    iterate 5 (refine zp E (zAe E rfl rfl) ?_; clear E a; intro a E)
    refine zp E (zBt E rfl rfl rfl (by first | exact wa1 (by omega) | exact w_in (by omega) | exact zBw (by omega) | exact rfl)) ?_; clear E a; intro a E
    iterate 8 (refine zp E (zAd E rfl rfl) ?_; clear E a; intro a E)
    refine wpList_nil ?_
    refine zBe ?_
    refine zAf hK ?_; clear hK; clear K
    replace E := E.keep (e' := [(2, _), (4, _), (5, _), (6, _), (7, _), (8, _), (9, _), (10, _), (11, _), (12, _), (13, _), (14, _), (15, _), (16, _), (35, _), (36, _), (37, _), (38, _), (39, _), (40, _), (41, _), (42, _), (43, _), (44, _), (45, _), (46, _), (47, _), (48, _), (49, _), (50, _), (51, _), (52, _), (53, _), (54, _), (55, _), (56, _), (57, _), (58, _), (59, _), (60, _), (61, _), (62, _), (63, _), (64, _), (65, _), (66, _), (67, _), (68, _), (69, _), (70, _), (71, _), (72, _), (73, _), (74, _), (75, _), (76, _), (77, _), (78, _), (79, _), (80, _), (81, _), (82, _), (83, _), (84, _), (85, _), (86, _), (87, _), (88, _), (89, _), (90, _), (91, _), (92, _), (93, _), (94, _), (95, _), (96, _)]) (zAa rfl (zAa rfl (zAa rfl (zAa rfl (zAa rfl (zAa rfl (zAa rfl (zAa rfl (zAa rfl (zAa rfl (zAa rfl (zAa rfl (zAa rfl (zAa rfl (zAa rfl (zAa rfl (zAa rfl (zAa rfl (zAa rfl (zAa rfl (zAa rfl (zAa rfl (zAa rfl (zAa rfl (zAa rfl (zAa rfl (zAa rfl (zAa rfl (zAa rfl (zAa rfl (zAa rfl (zAa rfl (zAa rfl (zAa rfl (zAa rfl (zAa rfl (zAa rfl (zAa rfl (zAa rfl (zAa rfl (zAa rfl (zAa rfl (zAa rfl (zAa rfl (zAa rfl (zAa rfl (zAa rfl (zAa rfl (zAa rfl (zAa rfl (zAa rfl (zAa rfl (zAa rfl (zAa rfl (zAa rfl (zAa rfl (zAa rfl (zAa rfl (zAa rfl (zAa rfl (zAa rfl (zAa rfl (zAa rfl (zAa rfl (zAa rfl (zAa rfl (zAa rfl (zAa rfl (zAa rfl (zAa rfl (zAa rfl (zAa rfl (zAa rfl (zAa rfl (zAa rfl (zAa rfl (zAm)))))))))))))))))))))))))))))))))))))))))))))))))))))))))))))))))))))))))))))
    refine zAb ?_
    refine zp E (zBt E rfl rfl rfl (by first | exact zCh (y := 1) (by omega) | exact w_in (by omega) | exact zBw (by omega) | exact rfl)) ?_; clear E a; intro a E
    refine zp E (zAe E rfl rfl) ?_; clear E a; intro a E
    refine wpList_nil ?_
    refine zBj ?_
    exact ⟨_, by omega, i + 1, s.step (shaK.getD i 0) (ws.getD i 0), rfl, by omega, by rw [hs]; rfl, S, E.keep (zAa rfl (zAa rfl (zAa rfl (zAa rfl (zAa rfl (zAa rfl (zAa rfl (zAa rfl (zAa rfl (zAa rfl (zAa rfl (zAa rfl zAm))))))))))))⟩
  · replace hb := Nrm.nrm hb
    refine wp_exit ?_
    refine zBa ?_; clear hK; clear K
    refine zBa ?_
    refine zCg ?_
    refine zAf hK ?_; clear hK; clear K
    iterate 2 (refine wp_seq_k ?_; intro K hK)
    obtain rfl : i = 64 := by omega
    refine zAb ?_
    iterate 8 (refine zp E (zAe E rfl rfl) ?_; clear E a; intro a E)
    refine zp E (zCv (cells := [_, _, _, _, _, _, _, _]) E rfl rfl rfl) ?_; clear E a; intro a E
    refine zp E (zAe E rfl rfl) ?_; clear E a; intro a E
    refine wpList_nil ?_
    refine zAf hK ?_; clear hK; clear K
    refine wp_block ?_
    refine wp_loop_ghost (fun (m : Nat) (a : Act) (w' : World) => ∃ i, m = 8 - i ∧ i ≤ 8 ∧ St w0 As w' ([(b2, cel (u32s (addL s0 s i)) 122)] :: [(b4, cel (List.replicate 8 (.int .u32 0)) 122)] :: [(b3, cel (u32s ws) 127)] :: As) ∧ Fr a 119 [(2, ptr b2), (4, ptr b4), (106, .agg (u32s s.l).toArray), (107, .int .i64 i)]) (8 - 0) ?_ ?_
    · exact ⟨0, rfl, by omega, by rw [addL_zero]; exact S.front3 (by repeat (first | exact pk1 | apply zAc)) (B := [(b4, _)]) (by repeat (first | exact pk1 | apply zAc)) (C := [(b3, _)]) (by repeat (first | exact pk1 | apply zAc)), E.keep (zAa rfl (zAa rfl (zAa rfl (zAa rfl zAm))))⟩
    clear E; clear a; (try clear S); rintro m a w ⟨i, rfl, hi, S, E⟩
    refine wp_seq_k ?_; intro K hK
    refine zAb ?_
    refine zp E (zCk E rfl rfl rfl) ?_; clear E a; intro a E
    refine wpList_nil ?_
    refine zAf hK ?_; clear hK; clear K
    refine wp_seq_k ?_; intro K hK
    refine zBh E rfl (fun hb => ?_) (fun hb => ?_)
    · replace hb := Nrm.nrm hb
      refine wp_skip ?_
      refine zAf hK ?_; clear hK; clear K
      refine wp_seq_k ?_; intro K hK
      refine wp_block ?_
      refine wp_seq_k ?_; intro K hK
      refine zAb ?_
      refine zp E (zAe E rfl rfl) ?_; clear E a; intro a E
      refine zp E (zIz E rfl rfl rfl rfl rfl rfl rfl (by omega) (v := .int .u32 (s.l.getD i 0)) (by rw [List.getElem?_toArray]; exact s8_at s (by omega))) ?_; clear E a; intro a E
      iterate 2 (refine zp E (zAd E rfl rfl) ?_; clear E a; intro a E)
      refine wpList_nil ?_
      refine zAf hK ?_; clear hK; clear K
      refine zAb ?_
      refine zp E (zAe E rfl rfl) ?_; clear E a; intro a E
      refine zp E (zCp (i := i) E rfl rfl rfl rfl rfl rfl (by omega)) ?_; clear E a; intro a E
      refine zp E (zAj E rfl rfl rfl (zCw (S.get (by repeat (first | exact pk1 | apply zAc))) (v := .int .u32 (s0.l.getD i 0)) (by rw [zLe _ (by rw [zHi]; omega), addL_at s0 s (by omega)]))) ?_; clear E a; intro a E
      refine zp E (zAe E rfl rfl) ?_; clear E a; intro a E
      refine zp E (zBt E rfl rfl rfl (by first | exact wa1 (by omega) | exact w_in (by omega) | exact zBw (by omega) | exact rfl)) ?_; clear E a; intro a E
      refine zp E (zCp (i := i) E rfl rfl rfl rfl rfl rfl (by omega)) ?_; clear E a; intro a E
      refine zAo rfl (zBp E S rfl rfl rfl rfl rfl rfl (by repeat (first | exact pk1 | apply zAc)) (by rw [List.length_map, zHi]; omega) ?_); clear E S a; intro a w E S; try dsimp only [List.set] at S
      refine wpList_nil ?_
      refine zBe ?_
      refine zAf hK ?_; clear hK; clear K
      refine zAb ?_
      refine zp E (zBt E rfl rfl rfl (by first | exact zCh (y := 1) (by omega) | exact w_in (by omega) | exact zBw (by omega) | exact rfl)) ?_; clear E a; intro a E
      refine zp E (zAe E rfl rfl) ?_; clear E a; intro a E
      refine wpList_nil ?_
      refine zBj ?_
      exact ⟨_, by omega, i + 1, rfl, by omega, by rw [← addL_set s0 s (by omega)]; exact S, E.keep (zAa rfl (zAa rfl (zAa rfl (zAa rfl zAm))))⟩
    · replace hb := Nrm.nrm hb
      refine wp_exit ?_
      refine zBa ?_; clear hK; clear K
      refine zBa ?_
      refine zCg ?_
      refine zAf hK ?_; clear hK; clear K
      refine wp_seq_k ?_; intro K hK
      obtain rfl : i = 8 := by omega
      rw [addL_end, hs] at S
      refine zAb ?_
      refine zp E (zFo E rfl rfl rfl (S.get (by repeat (first | exact pk1 | apply zAc))) rfl) ?_; clear E a; intro a E
      refine zAo rfl (zGb E S rfl rfl rfl rfl (zIf _) rfl rfl (by repeat (first | exact pk1 | apply zAc)) (by rfl) ?_); clear E S a; intro a w E S
      refine wpList_nil ?_
      refine zAf hK ?_; clear hK; clear K
      refine wp_ret ?_
      refine zIe E rfl rfl (S.get (by repeat (first | exact pk1 | apply zAc))) rfl ?_
      exact ⟨_, rfl, rfl, S.tail3.tr⟩
theorem zJn (s : S8) (b3 : Nat) (i : Nat) (hi : i + 1 < 8) (w0 : World) (H : Hp w0 [[(b3, cel (u32s s.l) 122)]]) :
    Ret Tryz.prog 120 #[.int .i64 i, ptr b3] w0 fun u w' => u = .int .u64 (pairN (s.l.getD i 0) (s.l.getD (i + 1) 0)) ∧ Trs w0 w' [[(b3, cel (u32s s.l) 122)]] [[(b3, cel (u32s s.l) 122)]] := by
  have S := St.begin H
  refine zCl 15 Tryz.func120 rfl rfl (by decide) ?_; intro a E
  refine wp_seq_k ?_; intro K hK
  refine zAb ?_
  refine zp E (zAd E rfl rfl) ?_; clear E a; intro a E
  refine wpList_nil ?_
  refine zAf hK ?_; clear hK; clear K
  refine wp_seq_k ?_; intro K hK
  refine zCb S (.ofL [(0, 0), (1, 0), (2, 0), (3, 0), (4, 0), (5, 0), (6, 0), (7, 0), (8, 0), (9, 0), (10, 0), (11, 0)]) (by kernel_rfl) (by kernel_rfl) ?_
  clear S; intro w S
  refine zm E rfl (fun w h => zAe E rfl rfl) ?_; clear E a; intro a E
  refine zm E rfl (fun w h => zCp (i := i) E rfl rfl rfl rfl rfl rfl (by omega)) ?_; clear E a; intro a E
  refine zm E rfl (fun w h => zAj E rfl rfl rfl (zCw (h.one (by repeat (first | exact mm1 | assumption | apply List.Mem.tail))) (s8_at s (i := i) (by omega)))) ?_; clear E a; intro a E
  refine zm E rfl (fun w h => zBg E rfl rfl rfl rfl rfl) ?_; clear E a; intro a E
  refine zm E rfl (fun w h => zFt E rfl rfl rfl (by omega) (by simp only [IntKind.bits]; omega) rfl) ?_; clear E a; intro a E
  refine zm E rfl (fun w h => zAe E rfl rfl) ?_; clear E a; intro a E
  refine zm E rfl (fun w h => zBt E rfl rfl rfl (by first | exact zCh (y := 1) (by omega) | exact w_in (by omega) | exact zBw (by omega) | exact rfl)) ?_; clear E a; intro a E
  refine zm E rfl (fun w h => zCp (i := i + 1) E rfl rfl rfl rfl rfl rfl (by omega)) ?_; clear E a; intro a E
  refine zm E rfl (fun w h => zAj E rfl rfl rfl (zCw (h.one (by repeat (first | exact mm1 | assumption | apply List.Mem.tail))) (s8_at s (i := i + 1) (by omega)))) ?_; clear E a; intro a E
  refine zm E rfl (fun w h => zBg E rfl rfl rfl rfl rfl) ?_; clear E a; intro a E
  refine zm E rfl (fun w h => zHt E rfl rfl rfl rfl) ?_; clear E a; intro a E
  refine zm E rfl (fun w h => zAd E rfl rfl) ?_; clear E a; intro a E
  refine zBz ?_
  refine zAf hK ?_; clear hK; clear K
  refine wp_ret ?_
  refine ret1 E rfl rfl ?_
  exact ⟨_, rfl, by rw [pairN_eq]; rfl, S.tr⟩
end Go.Proofs.YtbogecljkaimdaaGreatDoor
namespace Go.Sl
theorem buf_hcap {C : zAw} {T : TypeId} {s m : Nat} {v : Value} {xs : List Value} (h : Buf C T s v m xs) : ∃ ad c, v = .slice ad m c ∧ m ≤ c := by
  obtain ⟨ad, c, rfl⟩ := h.slice
  exact ⟨ad, c, rfl, h.cap_le⟩
theorem pad_zero (b : List UInt8) (z : Nat) : byt (b ++ [128] ++ List.replicate (z + 1) 0) = byt (b ++ [128] ++ List.replicate z 0) ++ [.int .u8 0] := by
  rw [List.replicate_succ', ← List.append_assoc, zDq]; rfl
def padH (b : List UInt8) : List UInt8 := b ++ [128] ++ List.replicate (padZ b.length) 0
theorem zKj (b : List UInt8) : (padH b).length = b.length + 1 + padZ b.length := by simp [padH]; omega
theorem padH_len (b : List UInt8) : padH b ++ lenB (b.length * 8) 8 = padL b := rfl
theorem drop_blk (all : List UInt8) (k : Nat) : ((byt (all.drop (64 * k))).drop (0 * 1)).take ((64 - 0) * 1) = byt (blk all k) := by simp [blk, zHe]
theorem drop_next (all : List UInt8) (k n : Nat) (h : all.length ≤ n + 64 * k + 64) : ((byt (all.drop (64 * k))).drop (64 * 1)).take (n * 1) = byt (all.drop (64 * (k + 1))) := by
  rw [zJi, zHe, List.drop_drop, List.take_of_length_le (by rw [List.length_drop]; omega), show 64 * k + 64 * 1 = 64 * (k + 1) by omega]
end Go.Sl
namespace Go.Proofs.YtbogecljkaimdaaGreatDoor
open Go.Sl
set_option maxRecDepth 10000
set_option maxHeartbeats 1000000 in
theorem sha_ret (D : zAw) (v : Value) (b : List UInt8) (hD : Rd D 1 v b.length (byt b)) (hbl : b.length ≤ 140737488352000) (As : List zAw) (hDA : D ∈ As) (hG : Tab As 2 shaK) (w0 : World) (H : Hp w0 As) :
    Ret Tryz.prog 105 #[v] w0 fun u w' => u = (shaF b).agg ∧ Trs w0 w' As As := by
  have S := (St.begin H).addNil
  have hps := zKi hbl
  have hHl := zKj b
  have hLl := zGm b
  have hL64 := padL_64 b
  obtain ⟨ad0, c0, rfl⟩ := hD.slice
  refine zCu 55 Tryz.func105 rfl rfl (by decide) ?_; intro a E
  refine wp_seq_k ?_; intro K hK
  refine zAb ?_
  refine zAo rfl (zBy E S rfl rfl (by decide) rfl rfl rfl ?_); clear E S a; intro a w b2 E S
  refine wpList_nil ?_
  refine zAf hK ?_; clear hK; clear K
  refine wp_seq_k ?_; intro K hK
  refine zAb ?_
  refine zp E (zCv (cells := [_, _, _, _, _, _, _, _]) E rfl rfl rfl) ?_; clear E a; intro a E
  refine zAo rfl (zBy E S rfl rfl (by decide) rfl rfl rfl ?_); clear E S a; intro a w b3 E S
  refine zAo rfl (zBk E S rfl rfl rfl rfl (by simp [Value.oneCell']) rfl (by repeat (first | exact pk1 | apply zAc)) (by simp) ?_); clear E S a; intro a w E S; simp only [List.take_succ_cons, List.take_zero, List.drop_succ_cons, List.drop_zero, List.cons_append, List.nil_append, List.append_nil, List.length_cons, List.length_nil, Nat.zero_add, Nat.add_zero] at S
  refine wpList_nil ?_
  refine zAf hK ?_; clear hK; clear K
  refine wp_seq_k ?_; intro K hK
  refine zAb ?_
  refine zp E (zAe E rfl rfl) ?_; clear E a; intro a E
  refine zAo rfl (zCn (by' := 1) E S rfl rfl (by decide) rfl rfl (Buf.nil _ _) (by repeat (first | exact pk1 | apply zAc)) (hD.src (S.stab.at (by repeat (first | exact mm1 | assumption | apply List.Mem.tail))) rfl) rfl rfl rfl rfl rfl rfl (by simp only [maxLen]; omega) (by omega) ?_); clear E S a; intro a w v9 C9 E S hB9
  simp only [Nat.zero_add, List.nil_append] at hB9
  refine zAo rfl (zDn (cells := [_]) E S rfl rfl (by decide) rfl rfl rfl rfl rfl (by decide) rfl ?_); clear E S a; intro a w b10 E S
  refine zAo rfl (zCn (by' := 1) E S rfl rfl (by decide) rfl rfl hB9 (by repeat (first | exact pk1 | apply zAc)) ((zFf (g := b10) (T := 5) (xs := [.int .u8 128]) (s := 1) (m := 1) rfl (by simp [Value.oneCell']) (by omega) 1).src (S.stab.at (by repeat (first | exact mm1 | assumption | apply List.Mem.tail))) rfl) rfl rfl rfl rfl rfl rfl (by simp only [maxLen]; omega) (by omega) ?_); clear E S a; intro a w v11 C11 E S hB11
  refine zp E (zAd E rfl rfl) ?_; clear E a; intro a E
  refine wpList_nil ?_
  have S := (S.del (A := [(b10, _)]) (by repeat (first | exact pk1 | apply zAc))).front3 (A := C11) (by repeat (first | exact pk1 | apply zAc)) (B := [(b3, _)]) (by repeat (first | exact pk1 | apply zAc)) (C := [(b2, _)]) (by repeat (first | exact pk1 | apply zAc))
  refine zAf hK ?_; clear hK; clear K
  refine wp_seq_k ?_; intro K hK
  refine wp_block ?_
  refine wp_loop_ghost (fun (m : Nat) (a : Act) (w' : World) => ∃ (z : Nat) (v : Value) (C : zAw), m = padZ b.length - z ∧ z ≤ padZ b.length ∧ Buf C 5 1 v (b.length + 1 + z) (byt (b ++ [128] ++ List.replicate z 0)) ∧ St w0 As w' (C :: [(b3, cel (u32s sha0.l) 122)] :: [(b2, cel [.int .u64 0, .int .u64 0, .int .u64 0, .int .u64 0] 29)] :: As) ∧ Fr a 55 [(0, .slice ad0 b.length c0), (2, ptr b2), (3, ptr b3), (4, v)]) (padZ b.length - 0) ?_ ?_
  · exact ⟨0, v11, C11, rfl, by omega, by rw [List.replicate_zero, List.append_nil, zDq]; exact hB11, S, E.keep (zAa rfl (zAa rfl (zAa rfl (zAa rfl zAm))))⟩
  clear E; clear a; (try clear S); rintro m a w ⟨z, v, C, rfl, hz, hC, S, E⟩
  iterate 2 (refine wp_seq_k ?_; intro K hK)
  obtain ⟨adv, cv, rfl⟩ := hC.slice
  refine zAb ?_
  refine zp E (zAe E rfl rfl) ?_; clear E a; intro a E
  refine zp E (by first | exact zBu E rfl rfl rfl | exact zAx E rfl rfl rfl | exact zAq E rfl rfl rfl) ?_; clear E a; intro a E
  refine zp E (rn_rem E rfl rfl rfl (by decide) (by first | exact wr_lit (y := 64) | exact rfl)) ?_; clear E a; intro a E
  refine zp E (by first | exact zDa E rfl rfl rfl | exact zBi E rfl rfl rfl rfl | exact zBs E rfl rfl rfl rfl | exact zBl E rfl rfl rfl) ?_; clear E a; intro a E
  refine wpList_nil ?_
  refine zAf hK ?_; clear hK; clear K
  refine zBh E rfl (fun hb => ?_) (fun hb => ?_)
  · replace hb := Nrm.nrm hb
    refine wp_skip ?_
    refine zAf hK ?_; clear hK; clear K
    refine wp_block ?_
    refine zAb ?_
    refine zp E (zAe E rfl rfl) ?_; clear E a; intro a E
    refine zAo rfl (zDn (cells := [_]) E S rfl rfl (by decide) rfl rfl rfl rfl rfl (by decide) rfl ?_); clear E S a; intro a w b17 E S
    refine zAo rfl (zCn (by' := 1) E S rfl rfl (by decide) rfl rfl hC (by repeat (first | exact pk1 | apply zAc)) ((zFf (g := b17) (T := 5) (xs := [.int .u8 0]) (s := 1) (m := 1) rfl (by simp [Value.oneCell']) (by omega) 1).src (S.stab.at (by repeat (first | exact mm1 | assumption | apply List.Mem.tail))) rfl) rfl rfl rfl rfl rfl rfl (by simp only [maxLen]; omega) (by omega) ?_); clear E S a; intro a w v18 C18 E S hB18
    refine zp E (zAd E rfl rfl) ?_; clear E a; intro a E
    refine wpList_nil ?_
    refine zBe ?_
    refine zBj ?_
    rw [← pad_zero] at hB18
    exact ⟨_, by unfold padZ at *; omega, z + 1, v18, C18, rfl, by unfold padZ at *; omega, hB18, (S.del (A := [(b17, _)]) (by repeat (first | exact pk1 | apply zAc))).front3 (A := C18) (by repeat (first | exact pk1 | apply zAc)) (B := [(b3, _)]) (by repeat (first | exact pk1 | apply zAc)) (C := [(b2, _)]) (by repeat (first | exact pk1 | apply zAc)), E.keep (zAa rfl (zAa rfl (zAa rfl (zAa rfl zAm))))⟩
  · replace hb := Nrm.nrm hb
    refine wp_exit ?_
    refine zBa ?_; clear hK; clear K
    refine zBa ?_
    refine zCg ?_
    refine zAf hK ?_; clear hK; clear K
    iterate 2 (refine wp_seq_k ?_; intro K hK)
    have hzz : z = padZ b.length := by unfold padZ at *; omega
    subst hzz
    have hC : Buf C 5 1 (.slice adv (b.length + 1 + padZ b.length) cv) (b.length + 1 + padZ b.length) (byt (padH b)) := hC
    refine zAb ?_
    refine zp E (zAd E rfl rfl) ?_; clear E a; intro a E
    refine wpList_nil ?_
    refine zAf hK ?_; clear hK; clear K
    refine wp_block ?_
    refine wp_loop_ghost (fun (m : Nat) (a : Act) (w' : World) => ∃ (k : Nat) (v : Value) (C : zAw), m = 8 - k ∧ k ≤ 8 ∧ Buf C 5 1 v (b.length + 1 + padZ b.length + k) (byt (padH b ++ lenB (b.length * 8) k)) ∧ St w0 As w' (C :: [(b3, cel (u32s sha0.l) 122)] :: [(b2, cel [.int .u64 0, .int .u64 0, .int .u64 0, .int .u64 0] 29)] :: As) ∧ Fr a 55 [(0, .slice ad0 b.length c0), (2, ptr b2), (3, ptr b3), (4, v), (5, .int .i64 (56 - 8 * (k : Int)))]) (8 - 0) ?_ ?_
    · exact ⟨0, _, C, rfl, by omega, by rw [lenB, List.append_nil, Nat.add_zero]; exact hC, S, E.keep (zAa rfl (zAa rfl (zAa rfl (zAa rfl (zAa rfl zAm)))))⟩
    clear E; clear a; (try clear S); rintro m a w ⟨k, v, C, rfl, hk, hC, S, E⟩
    iterate 2 (refine wp_seq_k ?_; intro K hK)
    refine zAb ?_
    refine zp E (zAe E rfl rfl) ?_; clear E a; intro a E
    refine zp E (zDy E rfl rfl rfl) ?_; clear E a; intro a E
    refine wpList_nil ?_
    refine zAf hK ?_; clear hK; clear K
    refine zBh E rfl (fun hb => ?_) (fun hb => ?_)
    · replace hb := Nrm.nrm hb
      refine wp_skip ?_
      refine zAf hK ?_; clear hK; clear K
      refine wp_seq_k ?_; intro K hK
      refine wp_block ?_
      obtain ⟨adv, cv, rfl⟩ := hC.slice
      have hq1 : [UInt8.ofNat (b.length * 8 / 2 ^ (56 - 8 * k))].length = 1 := rfl
      refine zAb ?_
      iterate 2 (refine zp E (zAe E rfl rfl) ?_; clear E a; intro a E)
      refine zp E (by first | exact zBu E rfl rfl rfl | exact zAx E rfl rfl rfl | exact zAq E rfl rfl rfl) ?_; clear E a; intro a E
      refine zp E (by first | exact zBg E rfl rfl rfl rfl (by first | exact wu8 _ | exact zFe (by omega) | exact zDz (by omega) | exact w_in (by omega) | exact zBw (by omega) | exact rfl) | exact zCi E rfl rfl rfl rfl rfl (by assumption) (S.stab.at (by simp))) ?_; clear E a; intro a E
      refine zp E (zFm E rfl rfl rfl (zBw (by omega))) ?_; clear E a; intro a E
      refine zp E (zAe E rfl rfl) ?_; clear E a; intro a E
      refine zp E (zHp E rfl rfl rfl (by omega) (by simp only [IntKind.bits]; omega) rfl) ?_; clear E a; intro a E
      rw [shs (by omega)] at E
      refine zp E (zBg E rfl rfl rfl rfl (w8 _)) ?_; clear E a; intro a E
      refine zAo rfl (zDn (cells := [_]) E S rfl rfl (by decide) rfl rfl rfl rfl rfl (by decide) rfl ?_); clear E S a; intro a w b31 E S
      refine zAo rfl (zCn (by' := 1) E S rfl rfl (by decide) rfl rfl hC (by repeat (first | exact pk1 | apply zAc)) ((zIh b31 [UInt8.ofNat (b.length * 8 / 2 ^ (56 - 8 * k))] 5 (by simp)).rd.src (S.stab.at (by repeat (first | exact mm1 | assumption | apply List.Mem.tail))) rfl) rfl rfl rfl rfl rfl rfl (by simp only [maxLen]; omega) (by omega) ?_); clear E S a; intro a w v32 C32 E S hB32
      refine zp E (zAd E rfl rfl) ?_; clear E a; intro a E
      refine wpList_nil ?_
      refine zBe ?_
      refine zAf hK ?_; clear hK; clear K
      refine zAb ?_
      refine zp E (zAe E rfl rfl) ?_; clear E a; intro a E
      refine zp E (zEe E rfl rfl rfl (w_in (by omega))) ?_; clear E a; intro a E
      refine zp E (zAd E rfl rfl) ?_; clear E a; intro a E
      refine wpList_nil ?_
      refine zBj ?_
      rw [show (56 - 8 * (k : Int)) - 8 = 56 - 8 * ((k + 1 : Nat) : Int) by omega] at E
      rw [← zDq, List.append_assoc, ← lenB_succ] at hB32
      exact ⟨_, by omega, k + 1, v32, C32, rfl, by omega, hB32, (S.del (A := [(b31, _)]) (by repeat (first | exact pk1 | apply zAc))).front3 (A := C32) (by repeat (first | exact pk1 | apply zAc)) (B := [(b3, _)]) (by repeat (first | exact pk1 | apply zAc)) (C := [(b2, _)]) (by repeat (first | exact pk1 | apply zAc)), E.keep (zAa rfl (zAa rfl (zAa rfl (zAa rfl (zAa rfl zAm)))))⟩
    · replace hb := Nrm.nrm hb
      refine wp_exit ?_
      refine zBa ?_; clear hK; clear K
      refine zBa ?_
      refine zCg ?_
      refine zAf hK ?_; clear hK; clear K
      refine wp_seq_k ?_; intro K hK
      refine wp_block ?_
      refine wp_loop_ghost (fun (m : Nat) (a : Act) (w' : World) => ∃ (j : Nat) (ad : Option Addr) (c : Nat), m = (padL b).length / 64 - j ∧ j ≤ (padL b).length / 64 ∧ (padL b).length - 64 * j ≤ c ∧ Rd C 1 (.slice ad ((padL b).length - 64 * j) c) ((padL b).length - 64 * j) (byt ((padL b).drop (64 * j))) ∧ St w0 As w' ([(b3, cel (u32s (shaH (padL b) j).l) 122)] :: C :: [(b2, cel [.int .u64 0, .int .u64 0, .int .u64 0, .int .u64 0] 29)] :: As) ∧ Fr a 55 [(2, ptr b2), (3, ptr b3), (4, .slice ad ((padL b).length - 64 * j) c)]) ((padL b).length / 64 - 0) ?_ ?_
      · obtain rfl : k = 8 := (by omega); rw [padH_len] at hC; obtain ⟨adv, cv, rfl, hcv⟩ := buf_hcap hC; have hlen : b.length + 1 + padZ b.length + 8 = (padL b).length - 64 * 0 := (by omega); rw [hlen] at hC E hcv; exact ⟨0, adv, cv, rfl, by omega, hcv, by rw [Nat.mul_zero, List.drop_zero]; exact hC.rd, S.front2 (by repeat (first | exact pk1 | apply zAc)) (by repeat (first | exact pk1 | apply zAc)), E.keep (zAa rfl (zAa rfl (zAa rfl zAm)))⟩
      clear E; clear a; (try clear S); rintro m a w ⟨j, ad, c, rfl, hj, hc, hR, S, E⟩
      iterate 2 (refine wp_seq_k ?_; intro K hK)
      refine zAb ?_
      refine zp E (zAe E rfl rfl) ?_; clear E a; intro a E
      refine zp E (by first | exact zBu E rfl rfl rfl | exact zAx E rfl rfl rfl | exact zAq E rfl rfl rfl) ?_; clear E a; intro a E
      refine zp E (zDt E rfl rfl rfl) ?_; clear E a; intro a E
      refine wpList_nil ?_
      refine zAf hK ?_; clear hK; clear K
      refine zBh E rfl (fun hb => ?_) (fun hb => ?_)
      · replace hb := Nrm.nrm hb
        refine wp_skip ?_
        refine zAf hK ?_; clear hK; clear K
        refine wp_seq_k ?_; intro K hK
        refine wp_block ?_
        have hjl : 64 * j + 64 ≤ (padL b).length := by omega
        obtain ⟨ad2, hs2, hR2⟩ := hR.cutc (lo := 0) (hi := 64) (by omega) (by omega) (by omega)
        rw [drop_blk] at hR2
        obtain ⟨g2, off2, rfl⟩ := hR2.addr (by omega)
        have hbk := zLf (padL b) hjl
        refine zCb S (.ofL [(0, 0), (1, 0), (2, 0), (3, 0), (4, 0), (5, 1), (6, 1), (7, 3)]) (by kernel_rfl) (by kernel_rfl) ?_
        clear S; intro w S
        refine zm E rfl (fun w h => zFo E rfl rfl rfl (h.one (by repeat (first | exact mm1 | assumption | apply List.Mem.tail))) rfl) ?_; clear E a; intro a E
        refine zm E rfl (fun w h => zAe E rfl rfl) ?_; clear E a; intro a E
        refine zm E rfl (fun w h => zGa (s := 1) (hi := 64) E rfl rfl rfl rfl rfl rfl (by omega)) ?_; clear E a; intro a E
        rw [hs2] at E
        refine zm E rfl (fun w h => rn_s2a E rfl rfl rfl (by omega)) ?_; clear E a; intro a E
        refine zm E rfl (fun w h => zEh (vs := byt (blk (padL b) j)) E rfl rfl rfl (by rw [zEi, hbk]; rfl) (hR2.cells (h.at (by repeat (first | exact mm1 | assumption | apply List.Mem.tail))) rfl)) ?_; clear E a; intro a E
        refine zCd E rfl rfl rfl (by decide) rfl Tryz.func119 rfl (by kernel_rfl) rfl (schedule_ret (blk (padL b) j) hbk _) ?_
        rintro v43 w ⟨rfl, hT⟩; clear E a; intro a E
        have S := S.quiet hT
        refine ⟨S.stab.sub (by first | (simp; done) | (simp +contextual; done) | (simp [*]; done)), ?_⟩
        refine zCd E rfl rfl rfl (by decide) rfl Tryz.func118 rfl (by kernel_rfl) rfl (mixed_ret (shaH (padL b) j) (wsN (blk (padL b) j) 64) (zEk _ _) As hG _ S.tail3.hp) ?_
        rintro v44 w ⟨rfl, hT⟩; clear E a; intro a E
        have S := St.under [_, _, _] S hT
        refine ⟨S.stab.sub (by first | (simp; done) | (simp +contextual; done) | (simp [*]; done)), ?_⟩
        refine zCt rfl rfl (zGb E S rfl rfl rfl rfl (zIf _) rfl rfl (by repeat (first | exact pk1 | apply zAc)) (by rfl) ?_); clear E S a; intro a w E S
        refine zBz ?_
        refine zBe ?_
        refine zAf hK ?_; clear hK; clear K
        obtain ⟨ad3, hs3, hR3⟩ := hR.cutc (lo := 64) (hi := (padL b).length - 64 * j) (by omega) (by omega) (by omega)
        rw [drop_next (padL b) j ((padL b).length - 64 * j - 64) (by omega), show (padL b).length - 64 * j - 64 = (padL b).length - 64 * (j + 1) by omega] at hR3
        rw [show (padL b).length - 64 * j - 64 = (padL b).length - 64 * (j + 1) by omega] at hs3
        refine zAb ?_
        refine zp E (zAe E rfl rfl) ?_; clear E a; intro a E
        refine zp E (rn_slice_l (s := 1) (lo := 64) E rfl rfl rfl rfl rfl rfl (by omega)) ?_; clear E a; intro a E
        rw [hs3] at E
        refine zp E (zAd E rfl rfl) ?_; clear E a; intro a E
        refine wpList_nil ?_
        refine zBj ?_
        exact ⟨_, by omega, j + 1, ad3, c - 64, rfl, by omega, by omega, hR3, S, E.keep (zAa rfl (zAa rfl (zAa rfl zAm)))⟩
      · replace hb := Nrm.nrm hb
        refine wp_exit ?_
        refine zBa ?_; clear hK; clear K
        refine zBa ?_
        refine zCg ?_
        refine zAf hK ?_; clear hK; clear K
        refine wp_seq_k ?_; intro K hK
        obtain ⟨hh, hhe⟩ : ∃ hh, hh = shaH (padL b) ((padL b).length / 64) := ⟨_, rfl⟩
        obtain rfl : j = (padL b).length / 64 := by omega
        rw [← hhe] at S
        refine zAb ?_
        refine zp E (zEo E rfl rfl ⟨_, rfl⟩) ?_; clear E a; intro a E
        refine zp E (zAd E rfl rfl) ?_; clear E a; intro a E
        refine wpList_nil ?_
        refine zAf hK ?_; clear hK; clear K
        refine wp_seq_k ?_; intro K hK
        refine zAb ?_
        refine zp E (zAe E rfl rfl) ?_; clear E a; intro a E
        refine zCy E rfl rfl (by decide) rfl rfl Tryz.func120 rfl (by kernel_rfl) rfl (zJn hh b3 0 (by omega) _ (S.hp.sel (zAl (by repeat (first | exact pk1 | apply zAc)) (zAu _)))) ?_
        rintro v47 w ⟨rfl, hT⟩; clear E a; intro a E
        have S := S.call1 (zAl (by repeat (first | exact pk1 | apply zAc)) (zAu _)) hT
        refine zp E (zAe E rfl rfl) ?_; clear E a; intro a E
        refine zCy E rfl rfl (by decide) rfl rfl Tryz.func120 rfl (by kernel_rfl) rfl (zJn hh b3 2 (by omega) _ (S.hp.sel (zAl (by repeat (first | exact pk1 | apply zAc)) (zAu _)))) ?_
        rintro v49 w ⟨rfl, hT⟩; clear E a; intro a E
        have S := S.call1 (zAl (by repeat (first | exact pk1 | apply zAc)) (zAu _)) hT
        refine zp E (zAe E rfl rfl) ?_; clear E a; intro a E
        refine zCy E rfl rfl (by decide) rfl rfl Tryz.func120 rfl (by kernel_rfl) rfl (zJn hh b3 4 (by omega) _ (S.hp.sel (zAl (by repeat (first | exact pk1 | apply zAc)) (zAu _)))) ?_
        rintro v51 w ⟨rfl, hT⟩; clear E a; intro a E
        have S := S.call1 (zAl (by repeat (first | exact pk1 | apply zAc)) (zAu _)) hT
        refine zp E (zAe E rfl rfl) ?_; clear E a; intro a E
        refine zCy E rfl rfl (by decide) rfl rfl Tryz.func120 rfl (by kernel_rfl) rfl (zJn hh b3 6 (by omega) _ (S.hp.sel (zAl (by repeat (first | exact pk1 | apply zAc)) (zAu _)))) ?_
        rintro v53 w ⟨rfl, hT⟩; clear E a; intro a E
        have S := S.call1 (zAl (by repeat (first | exact pk1 | apply zAc)) (zAu _)) hT
        refine zp E (zCv (cells := [_, _, _, _]) E rfl rfl rfl) ?_; clear E a; intro a E
        refine zAo rfl (zBk E S rfl rfl rfl rfl (by simp [Value.oneCell']) rfl (by repeat (first | exact pk1 | apply zAc)) (by simp) ?_); clear E S a; intro a w E S; simp only [List.take_succ_cons, List.take_zero, List.drop_succ_cons, List.drop_zero, List.cons_append, List.nil_append, List.append_nil, List.length_cons, List.length_nil, Nat.zero_add, Nat.add_zero] at S
        refine wpList_nil ?_
        refine zAf hK ?_; clear hK; clear K
        refine wp_ret ?_
        refine zIe E rfl rfl (S.get (by repeat (first | exact pk1 | apply zAc))) rfl ?_
        exact ⟨_, rfl, by rw [shaF, ← hhe]; rfl, S.tail3.tr⟩
end Go.Proofs.YtbogecljkaimdaaGreatDoor
namespace Go.Sl
section
variable {P : Program} {a : Act} {o : Oper} {n : Nat} {e : List (Nat × Value)} {x y : Operand} {w : World}
theorem zKk (E : Fr a n e) {t el : TypeId} {b l c i : Nat} {k : IntKind} {q : Int} (ho : o.op = .indexAddr t x y) (hx : ev e x = some (.slice (some ⟨b, 0, none⟩) l c)) (hy : ev e y = some (.int k q))
    (ht : P.underlying t = some (.slice el)) (hs : (P.info? el).map (·.size) = some 1) (hq : q = (i : Int)) (hi : i < l) : zBf P o a w (.pointer (some ⟨b, i, none⟩)) w := by
  have h := zBq (P := P) (w := w) E ho hx hy ht hs hq hi
  rwa [Nat.zero_add, Nat.mul_one] at h
end
theorem Tab.cells {As : List zAw} {g : Nat} {l : List Int} {w : World} (h : Tab As g l) (S : Stab As w) : ∀ i u, (u32s l)[i]? = some u → w.cell? ⟨g, 0 + i, none⟩ = some u := fun i u hu => by
  obtain ⟨G, hG, T, fr, hm⟩ := h
  rw [Nat.zero_add]
  exact zCw (S G hG _ hm) hu
theorem Tab.sub {As Bs : List zAw} {g : Nat} {l : List Int} (h : Tab As g l) (k : ∀ C ∈ As, C ∈ Bs) : Tab Bs g l := by
  obtain ⟨G, hG, r⟩ := h; exact ⟨G, k G hG, r⟩
theorem one8 {a b c d e f g h : Int} : ∀ u ∈ [Value.int .u32 a, .int .u32 b, .int .u32 c, .int .u32 d, .int .u32 e, .int .u32 f, .int .u32 g, .int .u32 h], u.oneCell' = true := fun u hu => by
  simp only [List.mem_cons, List.not_mem_nil, or_false] at hu
  rcases hu with rfl | rfl | rfl | rfl | rfl | rfl | rfl | rfl <;> rfl
theorem shs2 {n k : Nat} (hk : k ≤ 7) : ((n : Int) * 8) / 2 ^ (8 * (7 - (k : Int))).toNat = ((n * 8 / 2 ^ (56 - 8 * k) : Nat) : Int) := by
  rw [show (8 * (7 - (k : Int))).toNat = 56 - 8 * k by omega]; simp
end Go.Sl
namespace Go.Proofs.YtbogecljkaimdaaGreatDoor
open Go.Sl
set_option maxRecDepth 10000
theorem zEb (x k : Int) (hk : 1 ≤ k ∧ k ≤ 31) (w0 : World) : Ret Tryz.prog 113 #[.int .u32 x, .int .u64 k] w0 fun u w' => u = .int .u32 (rot x k) ∧ Trs w0 w' [] [] := by
  have S := St.begin (hp_nil w0)
  refine zCl 13 Tryz.func113 rfl rfl (by decide) ?_; intro a E
  refine wp_seq_k ?_; intro K hK
  refine zAb ?_
  refine zp E (zAd E rfl rfl) ?_; clear E a; intro a E
  refine wpList_nil ?_
  refine zAf hK ?_; clear hK; clear K
  refine wp_seq_k ?_; intro K hK
  refine zAb ?_
  iterate 2 (refine zp E (zAe E rfl rfl) ?_; clear E a; intro a E)
  refine zp E (zHp E rfl rfl rfl (by omega) (by simp only [IntKind.bits]; omega) rfl) ?_; clear E a; intro a E
  iterate 2 (refine zp E (zAe E rfl rfl) ?_; clear E a; intro a E)
  refine zp E (zEe E rfl rfl rfl (zBw (by omega))) ?_; clear E a; intro a E
  refine zp E (zFt E rfl rfl rfl (by omega) (by simp only [IntKind.bits]; omega) rfl) ?_; clear E a; intro a E
  refine zp E (zHt E rfl rfl rfl rfl) ?_; clear E a; intro a E
  refine zp E (zAd E rfl rfl) ?_; clear E a; intro a E
  refine wpList_nil ?_
  refine zAf hK ?_; clear hK; clear K
  refine wp_ret ?_
  refine ret1 E rfl rfl ?_
  exact ⟨_, rfl, rfl, (S.only (Bs := []) (zAu _)).tr⟩
theorem dpad_ret (D : zAw) (v : Value) (b : List UInt8) (hD : Rd D 1 v b.length (byt b)) (hbl : b.length ≤ 140737488352000) (As : List zAw) (hDA : D ∈ As) (w0 : World) (H : Hp w0 As) :
    Ret Tryz.prog 111 #[v] w0 fun u w' => ∃ C, Buf C 5 1 u (padL b).length (byt (padL b)) ∧ Trs w0 w' As (C :: As) := by
  have S := (St.begin H).addNil
  have hps := zKi hbl
  have hHl := zKj b
  have hLl := zGm b
  obtain ⟨ad0, c0, rfl⟩ := hD.slice
  refine zCu 36 Tryz.func111 rfl rfl (by decide) ?_; intro a E
  refine wp_seq_k ?_; intro K hK
  refine zAb ?_
  refine zp E (zAd E rfl rfl) ?_; clear E a; intro a E
  refine wpList_nil ?_
  refine zAf hK ?_; clear hK; clear K
  refine wp_seq_k ?_; intro K hK
  refine zAb ?_
  refine zp E (zAe E rfl rfl) ?_; clear E a; intro a E
  refine zAo rfl (zCn (by' := 1) E S rfl rfl (by decide) rfl rfl (Buf.nil _ _) (by repeat (first | exact pk1 | apply zAc)) (hD.src (S.stab.at (by repeat (first | exact mm1 | assumption | apply List.Mem.tail))) rfl) rfl rfl rfl rfl rfl rfl (by simp only [maxLen]; omega) (by omega) ?_); clear E S a; intro a w v7 C7 E S hB7
  simp only [Nat.zero_add, List.nil_append] at hB7
  refine zp E (zAd E rfl rfl) ?_; clear E a; intro a E
  refine wpList_nil ?_
  refine zAf hK ?_; clear hK; clear K
  refine wp_seq_k ?_; intro K hK
  refine zAb ?_
  refine zp E (zAe E rfl rfl) ?_; clear E a; intro a E
  refine zAo rfl (zDn (cells := [_]) E S rfl rfl (by decide) rfl rfl rfl rfl rfl (by decide) rfl ?_); clear E S a; intro a w b9 E S
  refine zAo rfl (zCn (by' := 1) E S rfl rfl (by decide) rfl rfl hB7 (by repeat (first | exact pk1 | apply zAc)) ((zFf (g := b9) (T := 5) (xs := [.int .u8 128]) (s := 1) (m := 1) rfl (by simp [Value.oneCell']) (by omega) 1).src (S.stab.at (by repeat (first | exact mm1 | assumption | apply List.Mem.tail))) rfl) rfl rfl rfl rfl rfl rfl (by simp only [maxLen]; omega) (by omega) ?_); clear E S a; intro a w v10 C10 E S hB10
  refine zp E (zAd E rfl rfl) ?_; clear E a; intro a E
  refine wpList_nil ?_
  have S := (S.del (A := [(b9, _)]) (by repeat (first | exact pk1 | apply zAc))).front1 (A := C10) (by repeat (first | exact pk1 | apply zAc))
  refine zAf hK ?_; clear hK; clear K
  refine wp_seq_k ?_; intro K hK
  refine wp_block ?_
  refine wp_loop_ghost (fun (m : Nat) (a : Act) (w' : World) => ∃ (z : Nat) (v : Value) (C : zAw), m = padZ b.length - z ∧ z ≤ padZ b.length ∧ Buf C 5 1 v (b.length + 1 + z) (byt (b ++ [128] ++ List.replicate z 0)) ∧ St w0 As w' (C :: As) ∧ Fr a 36 [(0, .slice ad0 b.length c0), (3, v)]) (padZ b.length - 0) ?_ ?_
  · exact ⟨0, v10, C10, rfl, by omega, by rw [List.replicate_zero, List.append_nil, zDq]; exact hB10, S, E.keep (zAa rfl (zAa rfl zAm))⟩
  clear E; clear a; (try clear S); rintro m a w ⟨z, v, C, rfl, hz, hC, S, E⟩
  iterate 2 (refine wp_seq_k ?_; intro K hK)
  obtain ⟨adv, cv, rfl⟩ := hC.slice
  refine zAb ?_
  refine zp E (zAe E rfl rfl) ?_; clear E a; intro a E
  refine zp E (by first | exact zBu E rfl rfl rfl | exact zAx E rfl rfl rfl | exact zAq E rfl rfl rfl) ?_; clear E a; intro a E
  refine zp E (rn_rem E rfl rfl rfl (by decide) (by first | exact wr_lit (y := 64) | exact rfl)) ?_; clear E a; intro a E
  refine zp E (by first | exact zDa E rfl rfl rfl | exact zBi E rfl rfl rfl rfl | exact zBs E rfl rfl rfl rfl | exact zBl E rfl rfl rfl) ?_; clear E a; intro a E
  refine wpList_nil ?_
  refine zAf hK ?_; clear hK; clear K
  refine zBh E rfl (fun hb => ?_) (fun hb => ?_)
  · replace hb := Nrm.nrm hb
    refine wp_skip ?_
    refine zAf hK ?_; clear hK; clear K
    refine wp_block ?_
    refine zAb ?_
    refine zp E (zAe E rfl rfl) ?_; clear E a; intro a E
    refine zAo rfl (zDn (cells := [_]) E S rfl rfl (by decide) rfl rfl rfl rfl rfl (by decide) rfl ?_); clear E S a; intro a w b16 E S
    refine zAo rfl (zCn (by' := 1) E S rfl rfl (by decide) rfl rfl hC (by repeat (first | exact pk1 | apply zAc)) ((zFf (g := b16) (T := 5) (xs := [.int .u8 0]) (s := 1) (m := 1) rfl (by simp [Value.oneCell']) (by omega) 1).src (S.stab.at (by repeat (first | exact mm1 | assumption | apply List.Mem.tail))) rfl) rfl rfl rfl rfl rfl rfl (by simp only [maxLen]; omega) (by omega) ?_); clear E S a; intro a w v17 C17 E S hB17
    refine zp E (zAd E rfl rfl) ?_; clear E a; intro a E
    refine wpList_nil ?_
    refine zBe ?_
    refine zBj ?_
    rw [← pad_zero] at hB17
    exact ⟨_, by unfold padZ at *; omega, z + 1, v17, C17, rfl, by unfold padZ at *; omega, hB17, (S.del (A := [(b16, _)]) (by repeat (first | exact pk1 | apply zAc))).front1 (A := C17) (by repeat (first | exact pk1 | apply zAc)), E.keep (zAa rfl (zAa rfl zAm))⟩
  · replace hb := Nrm.nrm hb
    refine wp_exit ?_
    refine zBa ?_; clear hK; clear K
    refine zBa ?_
    refine zCg ?_
    refine zAf hK ?_; clear hK; clear K
    refine wp_seq_k ?_; intro K hK
    have hzz : z = padZ b.length := by unfold padZ at *; omega
    subst hzz
    have hC : Buf C 5 1 (.slice adv (b.length + 1 + padZ b.length) cv) (b.length + 1 + padZ b.length) (byt (padH b)) := hC
    refine zAb ?_
    refine zp E (zAe E rfl rfl) ?_; clear E a; intro a E
    refine zp E (by first | exact zBu E rfl rfl rfl | exact zAx E rfl rfl rfl | exact zAq E rfl rfl rfl) ?_; clear E a; intro a E
    refine zp E (by first | exact zBg E rfl rfl rfl rfl (by first | exact wu8 _ | exact zFe (by omega) | exact zDz (by omega) | exact w_in (by omega) | exact zBw (by omega) | exact rfl) | exact zCi E rfl rfl rfl rfl rfl (by assumption) (S.stab.at (by simp))) ?_; clear E a; intro a E
    refine zp E (zFm E rfl rfl rfl (zBw (by omega))) ?_; clear E a; intro a E
    refine zp E (zAd E rfl rfl) ?_; clear E a; intro a E
    refine wpList_nil ?_
    refine zAf hK ?_; clear hK; clear K
    iterate 2 (refine wp_seq_k ?_; intro K hK)
    refine zAb ?_
    refine zp E (zAd E rfl rfl) ?_; clear E a; intro a E
    refine wpList_nil ?_
    refine zAf hK ?_; clear hK; clear K
    refine wp_block ?_
    refine wp_loop_ghost (fun (m : Nat) (a : Act) (w' : World) => ∃ (k : Nat) (v : Value) (C : zAw), m = 8 - k ∧ k ≤ 8 ∧ Buf C 5 1 v (b.length + 1 + padZ b.length + k) (byt (padH b ++ lenB (b.length * 8) k)) ∧ St w0 As w' (C :: As) ∧ Fr a 36 [(3, v), (4, .int .u64 ((b.length : Int) * 8)), (5, .int .i64 (7 - (k : Int)))]) (8 - 0) ?_ ?_
    · exact ⟨0, _, C, rfl, by omega, by rw [lenB, List.append_nil, Nat.add_zero]; exact hC, S, E.keep (zAa rfl (zAa rfl (zAa rfl zAm)))⟩
    clear E; clear a; (try clear S); rintro m a w ⟨k, v, C, rfl, hk, hC, S, E⟩
    iterate 2 (refine wp_seq_k ?_; intro K hK)
    refine zAb ?_
    refine zp E (zAe E rfl rfl) ?_; clear E a; intro a E
    refine zp E (zDy E rfl rfl rfl) ?_; clear E a; intro a E
    refine wpList_nil ?_
    refine zAf hK ?_; clear hK; clear K
    refine zBh E rfl (fun hb => ?_) (fun hb => ?_)
    · replace hb := Nrm.nrm hb
      refine wp_skip ?_
      refine zAf hK ?_; clear hK; clear K
      refine wp_seq_k ?_; intro K hK
      refine wp_block ?_
      obtain ⟨adv, cv, rfl⟩ := hC.slice
      have hq1 : [UInt8.ofNat (b.length * 8 / 2 ^ (56 - 8 * k))].length = 1 := rfl
      refine zAb ?_
      iterate 3 (refine zp E (zAe E rfl rfl) ?_; clear E a; intro a E)
      refine zp E (zBg E rfl rfl rfl rfl (zBw (by omega))) ?_; clear E a; intro a E
      refine zp E (zFm E rfl rfl rfl (zBw (by omega))) ?_; clear E a; intro a E
      refine zp E (zHp E rfl rfl rfl (by omega) (by simp only [IntKind.bits]; omega) rfl) ?_; clear E a; intro a E
      rw [shs2 (by omega)] at E
      refine zp E (zBg E rfl rfl rfl rfl (w8 _)) ?_; clear E a; intro a E
      refine zAo rfl (zDn (cells := [_]) E S rfl rfl (by decide) rfl rfl rfl rfl rfl (by decide) rfl ?_); clear E S a; intro a w b33 E S
      refine zAo rfl (zCn (by' := 1) E S rfl rfl (by decide) rfl rfl hC (by repeat (first | exact pk1 | apply zAc)) ((zIh b33 [UInt8.ofNat (b.length * 8 / 2 ^ (56 - 8 * k))] 5 (by simp)).rd.src (S.stab.at (by repeat (first | exact mm1 | assumption | apply List.Mem.tail))) rfl) rfl rfl rfl rfl rfl rfl (by simp only [maxLen]; omega) (by omega) ?_); clear E S a; intro a w v34 C34 E S hB34
      refine zp E (zAd E rfl rfl) ?_; clear E a; intro a E
      refine wpList_nil ?_
      refine zBe ?_
      refine zAf hK ?_; clear hK; clear K
      refine zAb ?_
      refine zp E (zAe E rfl rfl) ?_; clear E a; intro a E
      refine zp E (zEe E rfl rfl rfl (w_in (by omega))) ?_; clear E a; intro a E
      refine zp E (zAd E rfl rfl) ?_; clear E a; intro a E
      refine wpList_nil ?_
      refine zBj ?_
      rw [show (7 - (k : Int)) - 1 = 7 - ((k + 1 : Nat) : Int) by omega] at E
      rw [← zDq, List.append_assoc, ← lenB_succ] at hB34
      exact ⟨_, by omega, k + 1, v34, C34, rfl, by omega, hB34, (S.del (A := [(b33, _)]) (by repeat (first | exact pk1 | apply zAc))).front1 (A := C34) (by repeat (first | exact pk1 | apply zAc)), E.keep (zAa rfl (zAa rfl (zAa rfl zAm)))⟩
    · replace hb := Nrm.nrm hb
      refine wp_exit ?_
      refine zBa ?_; clear hK; clear K
      refine zBa ?_
      refine zCg ?_
      refine zAf hK ?_; clear hK; clear K
      refine wp_seq_k ?_; intro K hK
      refine zAb ?_
      refine zp E (zAe E rfl rfl) ?_; clear E a; intro a E
      refine zp E (zAd E rfl rfl) ?_; clear E a; intro a E
      refine wpList_nil ?_
      refine zAf hK ?_; clear hK; clear K
      refine wp_ret ?_
      refine ret1 E rfl rfl ?_
      obtain rfl : k = 8 := by omega
      rw [padH_len] at hC
      exact ⟨_, rfl, C, by rw [show (padL b).length = b.length + 1 + padZ b.length + 8 by omega]; exact hC, S.tr⟩
theorem words_ret (C : zAw) (v : Value) (b : List UInt8) (hC : Rd C 1 v b.length (byt b)) (hl : b.length = 64) (As : List zAw) (hCA : C ∈ As) (w0 : World) (H : Hp w0 As) :
    Ret Tryz.prog 112 #[v] w0 fun u w' => ∃ g, u = .slice (some ⟨g, 0, none⟩) 64 64 ∧ Trs w0 w' As ([(g, cel (u32s (wsN b 64)) 121)] :: As) := by
  have S := St.begin H
  obtain ⟨ad0, c0, rfl⟩ := hC.slice
  obtain ⟨gc, oc, rfl⟩ := hC.addr (by omega)
  refine zCu 96 Tryz.func112 rfl rfl (by decide) ?_; intro a E
  refine wp_seq_k ?_; intro K hK
  refine zAb ?_
  refine zp E (zAd E rfl rfl) ?_; clear E a; intro a E
  refine wpList_nil ?_
  refine zAf hK ?_; clear hK; clear K
  refine wp_seq_k ?_; intro K hK
  refine zAb ?_
  refine zAo rfl (zJh (by' := 4) E S rfl rfl (by decide) rfl rfl rfl rfl rfl rfl rfl rfl rfl rfl rfl (by decide) (by decide) ?_); clear E S a; intro a w g8 E S
  refine zp E (zAd E rfl rfl) ?_; clear E a; intro a E
  refine wpList_nil ?_
  refine zAf hK ?_; clear hK; clear K
  iterate 2 (refine wp_seq_k ?_; intro K hK)
  refine zAb ?_
  refine zp E (zAd E rfl rfl) ?_; clear E a; intro a E
  refine wpList_nil ?_
  refine zAf hK ?_; clear hK; clear K
  refine wp_block ?_
  refine wp_loop_ghost (fun (m : Nat) (a : Act) (w' : World) => ∃ i, m = 16 - i ∧ i ≤ 16 ∧ St w0 As w' ([(g8, cel (u32s (wsN b i) ++ List.replicate (64 - i) (.int .u32 0)) 121)] :: As) ∧ Fr a 96 [(0, .slice (some ⟨gc, oc, none⟩) b.length c0), (3, .slice (some ⟨g8, 0, none⟩) 64 64), (4, .int .i64 i)]) (16 - 0) ?_ ?_
  · exact ⟨0, rfl, by omega, S, E.keep (zAa rfl (zAa rfl (zAa rfl zAm)))⟩
  clear E; clear a; (try clear S); rintro m a w ⟨i, rfl, hi, S, E⟩
  iterate 2 (refine wp_seq_k ?_; intro K hK)
  refine zAb ?_
  refine zp E (zAe E rfl rfl) ?_; clear E a; intro a E
  refine zp E (zCk E rfl rfl rfl) ?_; clear E a; intro a E
  refine wpList_nil ?_
  refine zAf hK ?_; clear hK; clear K
  refine zBh E rfl (fun hb => ?_) (fun hb => ?_)
  · replace hb := Nrm.nrm hb
    refine wp_skip ?_
    refine zAf hK ?_; clear hK; clear K
    refine wp_seq_k ?_; intro K hK
    refine wp_block ?_
    have hwl := zEk b i
    have hst := ws_step b i
    rw [if_pos (by omega), word_lit b (by omega)] at hst
    refine zCb S (.ofL [(0, 0), (1, 0), (2, 0), (3, 0), (4, 0), (5, 0), (6, 0), (7, 0), (8, 0), (9, 0), (10, 0), (11, 0), (12, 0), (13, 0), (14, 0), (15, 0), (16, 0), (17, 0), (18, 0), (19, 0), (20, 0), (21, 0), (22, 0), (23, 0), (24, 0), (25, 0), (26, 0), (27, 0), (28, 0), (29, 0), (30, 0), (31, 0), (32, 0), (33, 0), (34, 0), (35, 0), (36, 3)]) (by kernel_rfl) (by kernel_rfl) ?_
    clear S; intro w S
    iterate 4 (refine zm E rfl (fun w h => zAe E rfl rfl) ?_; clear E a; intro a E)
    refine zm E rfl (fun w h => zFm E rfl rfl rfl (by first | exact zGr (x := 4) (by omega) | exact zFd (x := 4) (by omega) | exact w_in (by omega) | exact rfl)) ?_; clear E a; intro a E
    refine zm E rfl (fun w h => zBo (i := 4 * i) E rfl rfl rfl rfl rfl rfl (by omega)) ?_; clear E a; intro a E
    refine zm E rfl (fun w h => zAj E rfl rfl rfl (hC.byte (h.at (by repeat (first | exact mm1 | assumption | apply List.Mem.tail))) (i := 4 * i) (by omega))) ?_; clear E a; intro a E
    refine zm E rfl (fun w h => zBg E rfl rfl rfl rfl (w8_32 _)) ?_; clear E a; intro a E
    refine zm E rfl (fun w h => zFt E rfl rfl rfl (by omega) (by simp only [IntKind.bits]; omega) rfl) ?_; clear E a; intro a E
    iterate 2 (refine zm E rfl (fun w h => zAe E rfl rfl) ?_; clear E a; intro a E)
    refine zm E rfl (fun w h => zFm E rfl rfl rfl (by first | exact zGr (x := 4) (by omega) | exact zFd (x := 4) (by omega) | exact w_in (by omega) | exact rfl)) ?_; clear E a; intro a E
    refine zm E rfl (fun w h => zBt E rfl rfl rfl (by first | exact zCh (y := 1) (by omega) | exact w_in (by omega) | exact zBw (by omega) | exact rfl)) ?_; clear E a; intro a E
    refine zm E rfl (fun w h => zBo (i := 4 * i + 1) E rfl rfl rfl rfl rfl rfl (by omega)) ?_; clear E a; intro a E
    refine zm E rfl (fun w h => zAj E rfl rfl rfl (hC.byte (h.at (by repeat (first | exact mm1 | assumption | apply List.Mem.tail))) (i := 4 * i + 1) (by omega))) ?_; clear E a; intro a E
    refine zm E rfl (fun w h => zBg E rfl rfl rfl rfl (w8_32 _)) ?_; clear E a; intro a E
    refine zm E rfl (fun w h => zFt E rfl rfl rfl (by omega) (by simp only [IntKind.bits]; omega) rfl) ?_; clear E a; intro a E
    refine zm E rfl (fun w h => zHt E rfl rfl rfl rfl) ?_; clear E a; intro a E
    iterate 2 (refine zm E rfl (fun w h => zAe E rfl rfl) ?_; clear E a; intro a E)
    refine zm E rfl (fun w h => zFm E rfl rfl rfl (by first | exact zGr (x := 4) (by omega) | exact zFd (x := 4) (by omega) | exact w_in (by omega) | exact rfl)) ?_; clear E a; intro a E
    refine zm E rfl (fun w h => zBt E rfl rfl rfl (by first | exact zCh (y := 2) (by omega) | exact w_in (by omega) | exact zBw (by omega) | exact rfl)) ?_; clear E a; intro a E
    refine zm E rfl (fun w h => zBo (i := 4 * i + 2) E rfl rfl rfl rfl rfl rfl (by omega)) ?_; clear E a; intro a E
    refine zm E rfl (fun w h => zAj E rfl rfl rfl (hC.byte (h.at (by repeat (first | exact mm1 | assumption | apply List.Mem.tail))) (i := 4 * i + 2) (by omega))) ?_; clear E a; intro a E
    refine zm E rfl (fun w h => zBg E rfl rfl rfl rfl (w8_32 _)) ?_; clear E a; intro a E
    refine zm E rfl (fun w h => zFt E rfl rfl rfl (by omega) (by simp only [IntKind.bits]; omega) rfl) ?_; clear E a; intro a E
    refine zm E rfl (fun w h => zHt E rfl rfl rfl rfl) ?_; clear E a; intro a E
    iterate 2 (refine zm E rfl (fun w h => zAe E rfl rfl) ?_; clear E a; intro a E)
    refine zm E rfl (fun w h => zFm E rfl rfl rfl (by first | exact zGr (x := 4) (by omega) | exact zFd (x := 4) (by omega) | exact w_in (by omega) | exact rfl)) ?_; clear E a; intro a E
    refine zm E rfl (fun w h => zBt E rfl rfl rfl (by first | exact zCh (y := 3) (by omega) | exact w_in (by omega) | exact zBw (by omega) | exact rfl)) ?_; clear E a; intro a E
    refine zm E rfl (fun w h => zBo (i := 4 * i + 3) E rfl rfl rfl rfl rfl rfl (by omega)) ?_; clear E a; intro a E
    refine zm E rfl (fun w h => zAj E rfl rfl rfl (hC.byte (h.at (by repeat (first | exact mm1 | assumption | apply List.Mem.tail))) (i := 4 * i + 3) (by omega))) ?_; clear E a; intro a E
    refine zm E rfl (fun w h => zBg E rfl rfl rfl rfl (w8_32 _)) ?_; clear E a; intro a E
    refine zm E rfl (fun w h => zHt E rfl rfl rfl rfl) ?_; clear E a; intro a E
    refine zm E rfl (fun w h => zKk (i := i) E rfl rfl rfl rfl rfl rfl (by omega)) ?_; clear E a; intro a E
    refine zCt rfl rfl (zBp E S rfl rfl rfl rfl rfl rfl (by repeat (first | exact pk1 | apply zAc)) (by rw [List.length_append, List.length_map, List.length_replicate]; omega) ?_); clear E S a; intro a w E S; try dsimp only [List.set] at S
    rw [zGu (u32s (wsN b i)) 64 (.int .u32 0) _ i (by rw [List.length_map, hwl]) (by omega)] at S
    refine zBz ?_
    refine zBe ?_
    refine zAf hK ?_; clear hK; clear K
    refine zAb ?_
    refine zp E (zAe E rfl rfl) ?_; clear E a; intro a E
    refine zp E (zBt E rfl rfl rfl (by first | exact zCh (y := 1) (by omega) | exact w_in (by omega) | exact zBw (by omega) | exact rfl)) ?_; clear E a; intro a E
    refine zp E (zAd E rfl rfl) ?_; clear E a; intro a E
    refine wpList_nil ?_
    refine zBj ?_
    exact ⟨_, by omega, i + 1, rfl, by omega, by rw [hst]; exact S, E.keep (zAa rfl (zAa rfl (zAa rfl zAm)))⟩
  · replace hb := Nrm.nrm hb
    refine wp_exit ?_
    refine zBa ?_; clear hK; clear K
    refine zBa ?_
    refine zCg ?_
    refine zAf hK ?_; clear hK; clear K
    iterate 2 (refine wp_seq_k ?_; intro K hK)
    refine zAb ?_
    refine zp E (zAd E rfl rfl) ?_; clear E a; intro a E
    refine wpList_nil ?_
    refine zAf hK ?_; clear hK; clear K
    refine wp_block ?_
    refine wp_loop_ghost (fun (m : Nat) (a : Act) (w' : World) => ∃ i, m = 64 - i ∧ 16 ≤ i ∧ i ≤ 64 ∧ St w0 As w' ([(g8, cel (u32s (wsN b i) ++ List.replicate (64 - i) (.int .u32 0)) 121)] :: As) ∧ Fr a 96 [(3, .slice (some ⟨g8, 0, none⟩) 64 64), (5, .int .i64 i)]) (64 - 16) ?_ ?_
    · exact ⟨16, rfl, by omega, by omega, by obtain rfl : i = 16 := (by omega); exact S, E.keep (zAa rfl (zAa rfl zAm))⟩
    clear E; clear a; (try clear S); rintro m a w ⟨i, rfl, h16, hi, S, E⟩
    iterate 2 (refine wp_seq_k ?_; intro K hK)
    refine zAb ?_
    refine zp E (zAe E rfl rfl) ?_; clear E a; intro a E
    refine zp E (zCk E rfl rfl rfl) ?_; clear E a; intro a E
    refine wpList_nil ?_
    refine zAf hK ?_; clear hK; clear K
    refine zBh E rfl (fun hb => ?_) (fun hb => ?_)
    · replace hb := Nrm.nrm hb
      refine wp_skip ?_
      refine zAf hK ?_; clear hK; clear K
      refine wp_seq_k ?_; intro K hK
      refine wp_block ?_
      refine wp_seq_k ?_; intro K hK
      have hwl := zEk b i
      have hst := ws_step b i
      rw [if_neg (by omega)] at hst
      refine zAb ?_
      iterate 2 (refine zp E (zAe E rfl rfl) ?_; clear E a; intro a E)
      refine zp E (zEe E rfl rfl rfl (by first | exact zFu (y := 15) (by omega) (by omega) | exact w_in (by omega) | exact zBw (by omega) | exact rfl)) ?_; clear E a; intro a E
      refine zp E (zKk (i := i - 15) E rfl rfl rfl rfl rfl rfl (by omega)) ?_; clear E a; intro a E
      refine zp E (zAj E rfl rfl rfl (zCw (S.get (by repeat (first | exact pk1 | apply zAc))) (ws_at b i (i - 15) _ (by omega)))) ?_; clear E a; intro a E
      refine zp E (zAd E rfl rfl) ?_; clear E a; intro a E
      refine wpList_nil ?_
      refine zAf hK ?_; clear hK; clear K
      refine wp_seq_k ?_; intro K hK
      refine zAb ?_
      iterate 2 (refine zp E (zAe E rfl rfl) ?_; clear E a; intro a E)
      refine zp E (zEe E rfl rfl rfl (by first | exact zFu (y := 2) (by omega) (by omega) | exact w_in (by omega) | exact zBw (by omega) | exact rfl)) ?_; clear E a; intro a E
      refine zp E (zKk (i := i - 2) E rfl rfl rfl rfl rfl rfl (by omega)) ?_; clear E a; intro a E
      refine zp E (zAj E rfl rfl rfl (zCw (S.get (by repeat (first | exact pk1 | apply zAc))) (ws_at b i (i - 2) _ (by omega)))) ?_; clear E a; intro a E
      refine zp E (zAd E rfl rfl) ?_; clear E a; intro a E
      refine wpList_nil ?_
      refine zAf hK ?_; clear hK; clear K
      refine zCb S (.ofL [(0, 0), (1, 0), (2, 0), (3, 0), (4, 0), (5, 0), (6, 0), (7, 0), (9, 0), (12, 0), (13, 0), (16, 0), (17, 0), (18, 0), (19, 0), (20, 0), (22, 0), (24, 0), (27, 0), (28, 0), (8, 1), (10, 1), (11, 0), (14, 0), (15, 0), (21, 0), (23, 1), (25, 1), (26, 0), (29, 0), (30, 0), (31, 0), (32, 3)]) (by kernel_rfl) (by kernel_rfl) ?_
      clear S; intro w S
      iterate 4 (refine zm E rfl (fun w h => zAe E rfl rfl) ?_; clear E a; intro a E)
      refine zm E rfl (fun w h => zEe E rfl rfl rfl (by first | exact zFu (y := 16) (by omega) (by omega) | exact w_in (by omega) | exact zBw (by omega) | exact rfl)) ?_; clear E a; intro a E
      refine zm E rfl (fun w h => zKk (i := i - 16) E rfl rfl rfl rfl rfl rfl (by omega)) ?_; clear E a; intro a E
      refine zm E rfl (fun w h => zAj E rfl rfl rfl (zCw (h.one (by repeat (first | exact mm1 | assumption | apply List.Mem.tail))) (ws_at b i (i - 16) _ (by omega)))) ?_; clear E a; intro a E
      iterate 3 (refine zm E rfl (fun w h => zAe E rfl rfl) ?_; clear E a; intro a E)
      refine zm E rfl (fun w h => zHp E rfl rfl rfl (by omega) (by simp only [IntKind.bits]; omega) rfl) ?_; clear E a; intro a E
      iterate 2 (refine zm E rfl (fun w h => zAe E rfl rfl) ?_; clear E a; intro a E)
      refine zm E rfl (fun w h => zEe E rfl rfl rfl (by first | exact zFu (y := 7) (by omega) (by omega) | exact w_in (by omega) | exact zBw (by omega) | exact rfl)) ?_; clear E a; intro a E
      refine zm E rfl (fun w h => zKk (i := i - 7) E rfl rfl rfl rfl rfl rfl (by omega)) ?_; clear E a; intro a E
      refine zm E rfl (fun w h => zAj E rfl rfl rfl (zCw (h.one (by repeat (first | exact mm1 | assumption | apply List.Mem.tail))) (ws_at b i (i - 7) _ (by omega)))) ?_; clear E a; intro a E
      iterate 3 (refine zm E rfl (fun w h => zAe E rfl rfl) ?_; clear E a; intro a E)
      refine zm E rfl (fun w h => zHp E rfl rfl rfl (by omega) (by simp only [IntKind.bits]; omega) rfl) ?_; clear E a; intro a E
      refine zCd E rfl rfl rfl (by decide) rfl Tryz.func113 rfl (by kernel_rfl) rfl (zEb _ 7 (by omega) _) ?_
      rintro v71 w ⟨rfl, hT⟩; clear E a; intro a E
      have S := S.quiet hT
      refine ⟨S.stab.sub (by first | (simp; done) | (simp +contextual; done) | (simp [*]; done)), ?_⟩
      refine zCd E rfl rfl rfl (by decide) rfl Tryz.func113 rfl (by kernel_rfl) rfl (zEb _ 18 (by omega) _) ?_
      rintro v73 w ⟨rfl, hT⟩; clear E a; intro a E
      have S := S.quiet hT
      refine ⟨S.stab.sub (by first | (simp; done) | (simp +contextual; done) | (simp [*]; done)), ?_⟩
      iterate 2 (refine zm E rfl (fun w h => zEv E rfl rfl rfl rfl) ?_; clear E a; intro a E)
      iterate 2 (refine zm E rfl (fun w h => zBt E rfl rfl rfl (by first | exact wa1 (by omega) | exact w_in (by omega) | exact zBw (by omega) | exact rfl)) ?_; clear E a; intro a E)
      refine zCd E rfl rfl rfl (by decide) rfl Tryz.func113 rfl (by kernel_rfl) rfl (zEb _ 17 (by omega) _) ?_
      rintro v86 w ⟨rfl, hT⟩; clear E a; intro a E
      have S := S.quiet hT
      refine ⟨S.stab.sub (by first | (simp; done) | (simp +contextual; done) | (simp [*]; done)), ?_⟩
      refine zCd E rfl rfl rfl (by decide) rfl Tryz.func113 rfl (by kernel_rfl) rfl (zEb _ 19 (by omega) _) ?_
      rintro v88 w ⟨rfl, hT⟩; clear E a; intro a E
      have S := S.quiet hT
      refine ⟨S.stab.sub (by first | (simp; done) | (simp +contextual; done) | (simp [*]; done)), ?_⟩
      iterate 2 (refine zm E rfl (fun w h => zEv E rfl rfl rfl rfl) ?_; clear E a; intro a E)
      refine zm E rfl (fun w h => zBt E rfl rfl rfl (by first | exact wa1 (by omega) | exact w_in (by omega) | exact zBw (by omega) | exact rfl)) ?_; clear E a; intro a E
      refine zm E rfl (fun w h => zKk (i := i) E rfl rfl rfl rfl rfl rfl (by omega)) ?_; clear E a; intro a E
      refine zCt rfl rfl (zBp E S rfl rfl rfl rfl rfl rfl (by repeat (first | exact pk1 | apply zAc)) (by rw [List.length_append, List.length_map, List.length_replicate]; omega) ?_); clear E S a; intro a w E S; try dsimp only [List.set] at S
      rw [zGu (u32s (wsN b i)) 64 (.int .u32 0) _ i (by rw [List.length_map, hwl]) (by omega)] at S
      refine zBz ?_
      refine zBe ?_
      refine zAf hK ?_; clear hK; clear K
      refine zAb ?_
      refine zp E (zAe E rfl rfl) ?_; clear E a; intro a E
      refine zp E (zBt E rfl rfl rfl (by first | exact zCh (y := 1) (by omega) | exact w_in (by omega) | exact zBw (by omega) | exact rfl)) ?_; clear E a; intro a E
      refine zp E (zAd E rfl rfl) ?_; clear E a; intro a E
      refine wpList_nil ?_
      refine zBj ?_
      exact ⟨_, by omega, i + 1, rfl, by omega, by omega, by rw [hst]; exact S, E.keep (zAa rfl (zAa rfl zAm))⟩
    · replace hb := Nrm.nrm hb
      refine wp_exit ?_
      refine zBa ?_; clear hK; clear K
      refine zBa ?_
      refine zCg ?_
      refine zAf hK ?_; clear hK; clear K
      refine wp_seq_k ?_; intro K hK
      refine zAb ?_
      refine zp E (zAe E rfl rfl) ?_; clear E a; intro a E
      refine zp E (zAd E rfl rfl) ?_; clear E a; intro a E
      refine wpList_nil ?_
      refine zAf hK ?_; clear hK; clear K
      refine wp_ret ?_
      refine ret1 E rfl rfl ?_
      obtain rfl : i = 64 := by omega
      rw [Nat.sub_self, List.replicate_zero, List.append_nil] at S
      exact ⟨_, rfl, g8, rfl, S.tr⟩
end Go.Proofs.YtbogecljkaimdaaGreatDoor
namespace Go.Proofs.YtbogecljkaimdaaGreatDoor
open Go.Sl
set_option maxRecDepth 10000
set_option maxHeartbeats 2000000 in
theorem dsha_ret (D : zAw) (v : Value) (b : List UInt8) (hD : Rd D 1 v b.length (byt b)) (hbl : b.length ≤ 140737488352000) (As : List zAw) (hDA : D ∈ As) (hG0 : Tab As 0 sha0.l) (hG1 : Tab As 1 shaK) (w0 : World) (H : Hp w0 As) :
    Ret Tryz.prog 86 #[v] w0 fun u w' => u = (shaF b).agg ∧ Trs w0 w' As As := by
  have S := St.begin H
  have hps := zKi hbl
  have hLl := zGm b
  have hL64 := padL_64 b
  obtain ⟨all, hall⟩ : ∃ all, all = padL b := ⟨_, rfl⟩
  refine zCu 157 Tryz.func86 rfl rfl (by decide) ?_; intro a E
  refine wp_seq_k ?_; intro K hK
  refine zAb ?_
  refine zAo rfl (zBy E S rfl rfl (by decide) rfl rfl rfl ?_); clear E S a; intro a w b2 E S
  refine wpList_nil ?_
  refine zAf hK ?_; clear hK; clear K
  refine wp_seq_k ?_; intro K hK
  refine zAb ?_
  refine zp E (zEh (vs := u32s sha0.l) E rfl rfl rfl rfl (hG0.tail.cells S.stab)) ?_; clear E a; intro a E
  refine zAo rfl (zBy E S rfl rfl (by decide) rfl rfl rfl ?_); clear E S a; intro a w b3 E S
  refine zAo rfl (zGb E S rfl rfl rfl rfl (zIf _) rfl rfl (by repeat (first | exact pk1 | apply zAc)) (by rfl) ?_); clear E S a; intro a w E S
  refine wpList_nil ?_
  refine zAf hK ?_; clear hK; clear K
  refine wp_seq_k ?_; intro K hK
  refine zAb ?_
  refine zp E (zAe E rfl rfl) ?_; clear E a; intro a E
  refine zAp E rfl rfl (by decide) rfl Tryz.func111 rfl (by kernel_rfl) rfl (dpad_ret D v b hD hbl As hDA _ S.tail2.hp) ?_
  rintro v16 w ⟨C, hC, hT⟩; clear E a; intro a E
  have S := St.under [_, _] S hT; rw [← hall] at hC hLl hL64; obtain ⟨adv, cv, rfl, hcv⟩ := buf_hcap hC
  refine zp E (zAd E rfl rfl) ?_; clear E a; intro a E
  refine wpList_nil ?_
  refine zAf hK ?_; clear hK; clear K
  iterate 2 (refine wp_seq_k ?_; intro K hK)
  refine zAb ?_
  refine zp E (zAd E rfl rfl) ?_; clear E a; intro a E
  refine wpList_nil ?_
  refine zAf hK ?_; clear hK; clear K
  refine wp_block ?_
  refine wp_loop_ghost (fun (m : Nat) (a : Act) (w' : World) => ∃ j, m = all.length / 64 - j ∧ j ≤ all.length / 64 ∧ St w0 As w' ([(b3, cel (u32s (shaH all j).l) 122)] :: C :: [(b2, cel [.int .u64 0, .int .u64 0, .int .u64 0, .int .u64 0] 29)] :: As) ∧ Fr a 157 [(2, ptr b2), (3, ptr b3), (4, .slice adv all.length cv), (5, .int .i64 (64 * j : Nat))]) (all.length / 64 - 0) ?_ ?_
  · exact ⟨0, rfl, by omega, S.front3 (by repeat (first | exact pk1 | apply zAc)) (B := C) (by repeat (first | exact pk1 | apply zAc)) (C := [(b2, _)]) (by repeat (first | exact pk1 | apply zAc)), E.keep (zAa rfl (zAa rfl (zAa rfl (zAa rfl zAm))))⟩
  clear E; clear a; (try clear S); rintro m a w ⟨j, rfl, hj, S, E⟩
  iterate 2 (refine wp_seq_k ?_; intro K hK)
  refine zAb ?_
  iterate 2 (refine zp E (zAe E rfl rfl) ?_; clear E a; intro a E)
  refine zp E (by first | exact zBu E rfl rfl rfl | exact zAx E rfl rfl rfl | exact zAq E rfl rfl rfl) ?_; clear E a; intro a E
  refine zp E (zCk E rfl rfl rfl) ?_; clear E a; intro a E
  refine wpList_nil ?_
  refine zAf hK ?_; clear hK; clear K
  refine zBh E rfl (fun hb => ?_) (fun hb => ?_)
  · replace hb := Nrm.nrm hb
    refine wp_skip ?_
    refine zAf hK ?_; clear hK; clear K
    refine wp_seq_k ?_; intro K hK
    refine wp_block ?_
    refine wp_seq_k ?_; intro K hK
    have hjl : 64 * j + 64 ≤ all.length := by omega
    obtain ⟨ad2, hs2, hR2⟩ := hC.rd.cutc (lo := 64 * j) (hi := 64 * j + 64) (by omega) (by omega) (by omega)
    have hbk := zLf all hjl
    rw [show ((byt all).drop (64 * j * 1)).take ((64 * j + 64 - 64 * j) * 1) = byt (blk all j) by simp [blk, zHe, zJi]] at hR2
    have hR2 : Rd C 1 (.slice ad2 (64 * j + 64 - 64 * j) (cv - 64 * j)) (blk all j).length (byt (blk all j)) := by rw [hbk]; rw [show 64 * j + 64 - 64 * j = 64 by omega] at *; exact hR2
    refine zAb ?_
    iterate 3 (refine zp E (zAe E rfl rfl) ?_; clear E a; intro a E)
    refine zp E (zBt E rfl rfl rfl (by first | exact zCh (y := 64) (by omega) | exact w_in (by omega) | exact zBw (by omega) | exact rfl)) ?_; clear E a; intro a E
    refine zp E (zGi (s := 1) (lo := 64 * j) (hi := 64 * j + 64) E rfl rfl rfl rfl rfl rfl rfl rfl (by omega) (by omega)) ?_; clear E a; intro a E
    rw [hs2] at E
    refine zAp E rfl rfl (by decide) rfl Tryz.func112 rfl (by kernel_rfl) rfl (words_ret C _ (blk all j) hR2 hbk _ (show C ∈ _ from (by repeat (first | exact mm1 | assumption | apply List.Mem.tail))) _ S.hp) ?_
    rintro v28 w ⟨g6, rfl, hT⟩; clear E a; intro a E
    have S := S.all hT; obtain ⟨ws, hws⟩ : ∃ ws, ws = wsN (blk all j) 64 := ⟨_, rfl⟩; have hwl : ws.length = 64 := (by rw [hws]; exact zEk _ _); rw [← hws] at S
    refine zp E (zAd E rfl rfl) ?_; clear E a; intro a E
    refine wpList_nil ?_
    refine zAf hK ?_; clear hK; clear K
    refine wp_seq_k ?_; intro K hK
    obtain ⟨h0, hh0⟩ : ∃ h0, h0 = shaH all j := ⟨_, rfl⟩
    rw [← hh0] at S
    refine zAb ?_
    refine zp E (zFo E rfl rfl rfl (S.get (by repeat (first | exact pk1 | apply zAc))) rfl) ?_; clear E a; intro a E
    refine zAo rfl (zBy E S rfl rfl (by decide) rfl rfl rfl ?_); clear E S a; intro a w b7 E S
    refine zAo rfl (zGb E S rfl rfl rfl rfl (zIf _) rfl rfl (by repeat (first | exact pk1 | apply zAc)) (by rfl) ?_); clear E S a; intro a w E S
    refine wpList_nil ?_
    refine zAf hK ?_; clear hK; clear K
    iterate 2 (refine wp_seq_k ?_; intro K hK)
    refine zAb ?_
    refine zp E (zAd E rfl rfl) ?_; clear E a; intro a E
    refine wpList_nil ?_
    refine zAf hK ?_; clear hK; clear K
    refine wp_block ?_
    refine wp_loop_ghost (fun (m : Nat) (a : Act) (w' : World) => ∃ (i : Nat) (s : S8), m = 64 - i ∧ i ≤ 64 ∧ s = S8.mix h0 shaK ws i ∧ St w0 As w' ([(b7, cel (u32s s.l) 122)] :: [(g6, cel (u32s ws) 121)] :: [(b3, cel (u32s h0.l) 122)] :: C :: [(b2, cel [.int .u64 0, .int .u64 0, .int .u64 0, .int .u64 0] 29)] :: As) ∧ Fr a 157 [(2, ptr b2), (3, ptr b3), (4, .slice adv all.length cv), (5, .int .i64 (64 * j : Nat)), (6, .slice (some ⟨g6, 0, none⟩) 64 64), (7, ptr b7), (8, .int .i64 i)]) (64 - 0) ?_ ?_
    · exact ⟨0, h0, rfl, by omega, rfl, S, E.keep (zAa rfl (zAa rfl (zAa rfl (zAa rfl (zAa rfl (zAa rfl (zAa rfl zAm)))))))⟩
    clear E; clear a; (try clear S); rintro m a w ⟨i, s, rfl, hi, hs, S, E⟩
    iterate 2 (refine wp_seq_k ?_; intro K hK)
    refine zAb ?_
    refine zp E (zAe E rfl rfl) ?_; clear E a; intro a E
    refine zp E (zCk E rfl rfl rfl) ?_; clear E a; intro a E
    refine wpList_nil ?_
    refine zAf hK ?_; clear hK; clear K
    refine zBh E rfl (fun hb => ?_) (fun hb => ?_)
    · replace hb := Nrm.nrm hb
      refine wp_skip ?_
      refine zAf hK ?_; clear hK; clear K
      refine wp_seq_k ?_; intro K hK
      refine wp_block ?_
      refine wp_seq_k ?_; intro K hK
      refine zAb ?_
      refine zp E (zCp (i := 0) E rfl rfl rfl rfl rfl rfl (by omega)) ?_; clear E a; intro a E
      refine zp E (by first | exact zAn E rfl rfl rfl (S.get (by repeat (first | exact pk1 | apply zAc))) rfl | exact zAj E rfl rfl rfl (by assumption)) ?_; clear E a; intro a E
      refine zp E (zAd E rfl rfl) ?_; clear E a; intro a E
      refine wpList_nil ?_
      refine zAf hK ?_; clear hK; clear K
      refine wp_seq_k ?_; intro K hK
      refine zAb ?_
      refine zp E (zCp (i := 4) E rfl rfl rfl rfl rfl rfl (by omega)) ?_; clear E a; intro a E
      refine zp E (by first | exact zAn E rfl rfl rfl (S.get (by repeat (first | exact pk1 | apply zAc))) rfl | exact zAj E rfl rfl rfl (by assumption)) ?_; clear E a; intro a E
      refine zp E (zAd E rfl rfl) ?_; clear E a; intro a E
      refine wpList_nil ?_
      refine zAf hK ?_; clear hK; clear K
      refine wp_seq_k ?_; intro K hK
      refine zCb S (.ofL [(0, 0), (1, 0), (2, 0), (4, 0), (7, 0), (11, 0), (12, 0), (13, 0), (14, 0), (15, 0), (16, 0), (17, 0), (18, 0), (19, 0), (20, 0), (22, 0), (23, 0), (24, 0), (26, 0), (27, 0), (28, 0), (29, 0), (3, 1), (5, 1), (6, 0), (8, 1), (9, 0), (10, 0), (21, 0), (25, 0), (30, 0), (31, 0)]) (by kernel_rfl) (by kernel_rfl) ?_
      clear S; intro w S
      refine zm E rfl (fun w h => zCp (i := 7) E rfl rfl rfl rfl rfl rfl (by omega)) ?_; clear E a; intro a E
      refine zm E rfl (fun w h => by first | exact zAn E rfl rfl rfl (h.one (by repeat (first | exact mm1 | assumption | apply List.Mem.tail))) rfl | exact zAj E rfl rfl rfl (by assumption)) ?_; clear E a; intro a E
      iterate 4 (refine zm E rfl (fun w h => zAe E rfl rfl) ?_; clear E a; intro a E)
      refine zm E rfl (fun w h => zCp (i := 5) E rfl rfl rfl rfl rfl rfl (by omega)) ?_; clear E a; intro a E
      refine zm E rfl (fun w h => by first | exact zAn E rfl rfl rfl (h.one (by repeat (first | exact mm1 | assumption | apply List.Mem.tail))) rfl | exact zAj E rfl rfl rfl (by assumption)) ?_; clear E a; intro a E
      refine zm E rfl (fun w h => zGt E rfl rfl rfl rfl) ?_; clear E a; intro a E
      refine zm E rfl (fun w h => zAe E rfl rfl) ?_; clear E a; intro a E
      refine zm E rfl (fun w h => rn_com E rfl rfl rfl) ?_; clear E a; intro a E
      refine zm E rfl (fun w h => zCp (i := 6) E rfl rfl rfl rfl rfl rfl (by omega)) ?_; clear E a; intro a E
      refine zm E rfl (fun w h => by first | exact zAn E rfl rfl rfl (h.one (by repeat (first | exact mm1 | assumption | apply List.Mem.tail))) rfl | exact zAj E rfl rfl rfl (by assumption)) ?_; clear E a; intro a E
      refine zm E rfl (fun w h => zGt E rfl rfl rfl rfl) ?_; clear E a; intro a E
      refine zm E rfl (fun w h => zEv E rfl rfl rfl rfl) ?_; clear E a; intro a E
      refine zm E rfl (fun w h => zAe E rfl rfl) ?_; clear E a; intro a E
      refine zm E rfl (fun w h => zCp (i := i) E rfl rfl rfl rfl rfl rfl (by omega)) ?_; clear E a; intro a E
      refine zm E rfl (fun w h => zAj E rfl rfl rfl (hG1.tail.tail.tail.tail.tail.cell h (j := i) (by rw [shaK_len]; omega))) ?_; clear E a; intro a E
      iterate 2 (refine zm E rfl (fun w h => zAe E rfl rfl) ?_; clear E a; intro a E)
      refine zm E rfl (fun w h => zKk (i := i) E rfl rfl rfl rfl rfl rfl (by omega)) ?_; clear E a; intro a E
      refine zm E rfl (fun w h => zAj E rfl rfl rfl (zCw (h.one (show [(g6, cel (u32s ws) 121)] ∈ _ from (by repeat (first | exact mm1 | assumption | apply List.Mem.tail)))) (zLe ws (j := i) (by omega)))) ?_; clear E a; intro a E
      refine zCd E rfl rfl rfl (by decide) rfl Tryz.func113 rfl (by kernel_rfl) rfl (zEb s.e 6 (by omega) _) ?_
      rintro v41 w ⟨rfl, hT⟩; clear E a; intro a E
      have S := S.quiet hT
      refine ⟨S.stab.sub (by first | (simp; done) | (simp +contextual; done) | (simp [*]; done)), ?_⟩
      refine zCd E rfl rfl rfl (by decide) rfl Tryz.func113 rfl (by kernel_rfl) rfl (zEb s.e 11 (by omega) _) ?_
      rintro v43 w ⟨rfl, hT⟩; clear E a; intro a E
      have S := S.quiet hT
      refine ⟨S.stab.sub (by first | (simp; done) | (simp +contextual; done) | (simp [*]; done)), ?_⟩
      refine zm E rfl (fun w h => zEv E rfl rfl rfl rfl) ?_; clear E a; intro a E
      refine zCd E rfl rfl rfl (by decide) rfl Tryz.func113 rfl (by kernel_rfl) rfl (zEb s.e 25 (by omega) _) ?_
      rintro v46 w ⟨rfl, hT⟩; clear E a; intro a E
      have S := S.quiet hT
      refine ⟨S.stab.sub (by first | (simp; done) | (simp +contextual; done) | (simp [*]; done)), ?_⟩
      refine zm E rfl (fun w h => zEv E rfl rfl rfl rfl) ?_; clear E a; intro a E
      iterate 4 (refine zm E rfl (fun w h => zBt E rfl rfl rfl (by first | exact wa1 (by omega) | exact w_in (by omega) | exact zBw (by omega) | exact rfl)) ?_; clear E a; intro a E)
      refine zm E rfl (fun w h => zAd E rfl rfl) ?_; clear E a; intro a E
      refine zBz ?_
      refine zAf hK ?_; clear hK; clear K
      refine wp_seq_k ?_; intro K hK
      refine zCb S (.ofL [(0, 0), (2, 0), (5, 0), (8, 0), (9, 0), (10, 0), (11, 0), (12, 0), (13, 0), (14, 0), (15, 0), (16, 0), (17, 0), (18, 0), (19, 0), (20, 0), (21, 0), (22, 0), (1, 1), (3, 1), (4, 0), (6, 1), (7, 0), (23, 0), (24, 0)]) (by kernel_rfl) (by kernel_rfl) ?_
      clear S; intro w S
      iterate 4 (refine zm E rfl (fun w h => zAe E rfl rfl) ?_; clear E a; intro a E)
      refine zm E rfl (fun w h => zCp (i := 1) E rfl rfl rfl rfl rfl rfl (by omega)) ?_; clear E a; intro a E
      refine zm E rfl (fun w h => by first | exact zAn E rfl rfl rfl (h.one (by repeat (first | exact mm1 | assumption | apply List.Mem.tail))) rfl | exact zAj E rfl rfl rfl (by assumption)) ?_; clear E a; intro a E
      refine zm E rfl (fun w h => zGt E rfl rfl rfl rfl) ?_; clear E a; intro a E
      refine zm E rfl (fun w h => zAe E rfl rfl) ?_; clear E a; intro a E
      refine zm E rfl (fun w h => zCp (i := 2) E rfl rfl rfl rfl rfl rfl (by omega)) ?_; clear E a; intro a E
      refine zm E rfl (fun w h => by first | exact zAn E rfl rfl rfl (h.one (by repeat (first | exact mm1 | assumption | apply List.Mem.tail))) rfl | exact zAj E rfl rfl rfl (by assumption)) ?_; clear E a; intro a E
      refine zm E rfl (fun w h => zGt E rfl rfl rfl rfl) ?_; clear E a; intro a E
      refine zm E rfl (fun w h => zEv E rfl rfl rfl rfl) ?_; clear E a; intro a E
      refine zm E rfl (fun w h => zCp (i := 1) E rfl rfl rfl rfl rfl rfl (by omega)) ?_; clear E a; intro a E
      refine zm E rfl (fun w h => by first | exact zAn E rfl rfl rfl (h.one (by repeat (first | exact mm1 | assumption | apply List.Mem.tail))) rfl | exact zAj E rfl rfl rfl (by assumption)) ?_; clear E a; intro a E
      refine zm E rfl (fun w h => zCp (i := 2) E rfl rfl rfl rfl rfl rfl (by omega)) ?_; clear E a; intro a E
      refine zm E rfl (fun w h => by first | exact zAn E rfl rfl rfl (h.one (by repeat (first | exact mm1 | assumption | apply List.Mem.tail))) rfl | exact zAj E rfl rfl rfl (by assumption)) ?_; clear E a; intro a E
      refine zm E rfl (fun w h => zGt E rfl rfl rfl rfl) ?_; clear E a; intro a E
      refine zm E rfl (fun w h => zEv E rfl rfl rfl rfl) ?_; clear E a; intro a E
      refine zCd E rfl rfl rfl (by decide) rfl Tryz.func113 rfl (by kernel_rfl) rfl (zEb s.a 2 (by omega) _) ?_
      rintro v70 w ⟨rfl, hT⟩; clear E a; intro a E
      have S := S.quiet hT
      refine ⟨S.stab.sub (by first | (simp; done) | (simp +contextual; done) | (simp [*]; done)), ?_⟩
      refine zCd E rfl rfl rfl (by decide) rfl Tryz.func113 rfl (by kernel_rfl) rfl (zEb s.a 13 (by omega) _) ?_
      rintro v72 w ⟨rfl, hT⟩; clear E a; intro a E
      have S := S.quiet hT
      refine ⟨S.stab.sub (by first | (simp; done) | (simp +contextual; done) | (simp [*]; done)), ?_⟩
      refine zm E rfl (fun w h => zEv E rfl rfl rfl rfl) ?_; clear E a; intro a E
      refine zCd E rfl rfl rfl (by decide) rfl Tryz.func113 rfl (by kernel_rfl) rfl (zEb s.a 22 (by omega) _) ?_
      rintro v75 w ⟨rfl, hT⟩; clear E a; intro a E
      have S := S.quiet hT
      refine ⟨S.stab.sub (by first | (simp; done) | (simp +contextual; done) | (simp [*]; done)), ?_⟩
      refine zm E rfl (fun w h => zEv E rfl rfl rfl rfl) ?_; clear E a; intro a E
      refine zm E rfl (fun w h => zBt E rfl rfl rfl (by first | exact wa1 (by omega) | exact w_in (by omega) | exact zBw (by omega) | exact rfl)) ?_; clear E a; intro a E
      refine zm E rfl (fun w h => zAd E rfl rfl) ?_; clear E a; intro a E
      refine zBz ?_
      refine zAf hK ?_; clear hK; clear K
      refine zAb ?_
      iterate 2 (refine zp E (zAe E rfl rfl) ?_; clear E a; intro a E)
      refine zp E (zBt E rfl rfl rfl (by first | exact wa1 (by omega) | exact w_in (by omega) | exact zBw (by omega) | exact rfl)) ?_; clear E a; intro a E
      refine zp E (zAe E rfl rfl) ?_; clear E a; intro a E
      refine zp E (zCp (i := 1) E rfl rfl rfl rfl rfl rfl (by omega)) ?_; clear E a; intro a E
      refine zp E (by first | exact zAn E rfl rfl rfl (S.get (by repeat (first | exact pk1 | apply zAc))) rfl | exact zAj E rfl rfl rfl (by assumption)) ?_; clear E a; intro a E
      refine zp E (zCp (i := 2) E rfl rfl rfl rfl rfl rfl (by omega)) ?_; clear E a; intro a E
      refine zp E (by first | exact zAn E rfl rfl rfl (S.get (by repeat (first | exact pk1 | apply zAc))) rfl | exact zAj E rfl rfl rfl (by assumption)) ?_; clear E a; intro a E
      refine zp E (zCp (i := 3) E rfl rfl rfl rfl rfl rfl (by omega)) ?_; clear E a; intro a E
      refine zp E (by first | exact zAn E rfl rfl rfl (S.get (by repeat (first | exact pk1 | apply zAc))) rfl | exact zAj E rfl rfl rfl (by assumption)) ?_; clear E a; intro a E
      refine zp E (zAe E rfl rfl) ?_; clear E a; intro a E
      refine zp E (zBt E rfl rfl rfl (by first | exact wa1 (by omega) | exact w_in (by omega) | exact zBw (by omega) | exact rfl)) ?_; clear E a; intro a E
      refine zp E (zAe E rfl rfl) ?_; clear E a; intro a E
      refine zp E (zCp (i := 5) E rfl rfl rfl rfl rfl rfl (by omega)) ?_; clear E a; intro a E
      refine zp E (by first | exact zAn E rfl rfl rfl (S.get (by repeat (first | exact pk1 | apply zAc))) rfl | exact zAj E rfl rfl rfl (by assumption)) ?_; clear E a; intro a E
      refine zp E (zCp (i := 6) E rfl rfl rfl rfl rfl rfl (by omega)) ?_; clear E a; intro a E
      refine zp E (by first | exact zAn E rfl rfl rfl (S.get (by repeat (first | exact pk1 | apply zAc))) rfl | exact zAj E rfl rfl rfl (by assumption)) ?_; clear E a; intro a E
      refine zp E (zCv (cells := [_, _, _, _, _, _, _, _]) E rfl rfl rfl) ?_; clear E a; intro a E
      refine zAo rfl (zGb E S rfl rfl rfl rfl one8 rfl rfl (by repeat (first | exact pk1 | apply zAc)) (by rfl) ?_); clear E S a; intro a w E S
      refine wpList_nil ?_
      refine zBe ?_
      refine zAf hK ?_; clear hK; clear K
      refine zAb ?_
      refine zp E (zAe E rfl rfl) ?_; clear E a; intro a E
      refine zp E (zBt E rfl rfl rfl (by first | exact zCh (y := 1) (by omega) | exact w_in (by omega) | exact zBw (by omega) | exact rfl)) ?_; clear E a; intro a E
      refine zp E (zAd E rfl rfl) ?_; clear E a; intro a E
      refine wpList_nil ?_
      refine zBj ?_
      exact ⟨_, by omega, i + 1, s.step (shaK.getD i 0) (ws.getD i 0), rfl, by omega, by rw [hs]; rfl, S, E.keep (zAa rfl (zAa rfl (zAa rfl (zAa rfl (zAa rfl (zAa rfl (zAa rfl zAm)))))))⟩
    · replace hb := Nrm.nrm hb
      refine wp_exit ?_
      refine zBa ?_; clear hK; clear K
      refine zBa ?_
      refine zCg ?_
      refine zAf hK ?_; clear hK; clear K
      refine wp_seq_k ?_; intro K hK
      obtain rfl : i = 64 := by omega
      refine zAb ?_
      refine zp E (zAd E rfl rfl) ?_; clear E a; intro a E
      refine wpList_nil ?_
      refine zAf hK ?_; clear hK; clear K
      refine wp_block ?_
      refine wp_loop_ghost (fun (m : Nat) (a : Act) (w' : World) => ∃ i, m = 8 - i ∧ i ≤ 8 ∧ St w0 As w' ([(b3, cel (u32s (addL h0 s i)) 122)] :: [(b7, cel (u32s s.l) 122)] :: C :: [(b2, cel [.int .u64 0, .int .u64 0, .int .u64 0, .int .u64 0] 29)] :: As) ∧ Fr a 157 [(2, ptr b2), (3, ptr b3), (4, .slice adv all.length cv), (5, .int .i64 (64 * j : Nat)), (7, ptr b7), (13, .int .i64 i)]) (8 - 0) ?_ ?_
      · exact ⟨0, rfl, by omega, by rw [addL_zero]; exact (S.del (A := [(g6, _)]) (by repeat (first | exact pk1 | apply zAc))).front2 (A := [(b3, _)]) (by repeat (first | exact pk1 | apply zAc)) (B := [(b7, _)]) (by repeat (first | exact pk1 | apply zAc)), E.keep (zAa rfl (zAa rfl (zAa rfl (zAa rfl (zAa rfl (zAa rfl zAm))))))⟩
      clear E; clear a; (try clear S); rintro m a w ⟨i, rfl, hi, S, E⟩
      iterate 2 (refine wp_seq_k ?_; intro K hK)
      refine zAb ?_
      refine zp E (zAe E rfl rfl) ?_; clear E a; intro a E
      refine zp E (zCk E rfl rfl rfl) ?_; clear E a; intro a E
      refine wpList_nil ?_
      refine zAf hK ?_; clear hK; clear K
      refine zBh E rfl (fun hb => ?_) (fun hb => ?_)
      · replace hb := Nrm.nrm hb
        refine wp_skip ?_
        refine zAf hK ?_; clear hK; clear K
        refine wp_seq_k ?_; intro K hK
        refine wp_block ?_
        refine zCb S (.ofL [(0, 0), (1, 0), (2, 0), (3, 0), (4, 0), (5, 0), (6, 0), (7, 0), (8, 0), (9, 3)]) (by kernel_rfl) (by kernel_rfl) ?_
        clear S; intro w S
        iterate 2 (refine zm E rfl (fun w h => zAe E rfl rfl) ?_; clear E a; intro a E)
        refine zm E rfl (fun w h => zCp (i := i) E rfl rfl rfl rfl rfl rfl (by omega)) ?_; clear E a; intro a E
        refine zm E rfl (fun w h => zAj E rfl rfl rfl (zCw (h.one (show [(b3, cel (u32s (addL h0 s i)) 122)] ∈ _ from (by repeat (first | exact mm1 | assumption | apply List.Mem.tail)))) (v := .int .u32 (h0.l.getD i 0)) (by rw [zLe _ (by rw [zHi]; omega), addL_at h0 s (by omega)]))) ?_; clear E a; intro a E
        refine zm E rfl (fun w h => zAe E rfl rfl) ?_; clear E a; intro a E
        refine zm E rfl (fun w h => zCp (i := i) E rfl rfl rfl rfl rfl rfl (by omega)) ?_; clear E a; intro a E
        refine zm E rfl (fun w h => zAj E rfl rfl rfl (zCw (h.one (show [(b7, cel (u32s s.l) 122)] ∈ _ from (by repeat (first | exact mm1 | assumption | apply List.Mem.tail)))) (s8_at s (i := i) (by omega)))) ?_; clear E a; intro a E
        refine zm E rfl (fun w h => zBt E rfl rfl rfl (by first | exact wa1 (by omega) | exact w_in (by omega) | exact zBw (by omega) | exact rfl)) ?_; clear E a; intro a E
        refine zm E rfl (fun w h => zCp (i := i) E rfl rfl rfl rfl rfl rfl (by omega)) ?_; clear E a; intro a E
        refine zCt rfl rfl (zBp E S rfl rfl rfl rfl rfl rfl (by repeat (first | exact pk1 | apply zAc)) (by rw [List.length_map, zHi]; omega) ?_); clear E S a; intro a w E S; try dsimp only [List.set] at S
        refine zBz ?_
        refine zBe ?_
        refine zAf hK ?_; clear hK; clear K
        refine zAb ?_
        refine zp E (zAe E rfl rfl) ?_; clear E a; intro a E
        refine zp E (zBt E rfl rfl rfl (by first | exact zCh (y := 1) (by omega) | exact w_in (by omega) | exact zBw (by omega) | exact rfl)) ?_; clear E a; intro a E
        refine zp E (zAd E rfl rfl) ?_; clear E a; intro a E
        refine wpList_nil ?_
        refine zBj ?_
        exact ⟨_, by omega, i + 1, rfl, by omega, by rw [← addL_set h0 s (by omega)]; exact S, E.keep (zAa rfl (zAa rfl (zAa rfl (zAa rfl (zAa rfl (zAa rfl zAm))))))⟩
      · replace hb := Nrm.nrm hb
        refine wp_exit ?_
        refine zBa ?_; clear hK; clear K
        refine zBa ?_
        refine zCg ?_
        refine zBe ?_
        refine zAf hK ?_; clear hK; clear K
        obtain rfl : i = 8 := by omega
        rw [addL_end, hs, hh0, hws] at S
        refine zAb ?_
        refine zp E (zAe E rfl rfl) ?_; clear E a; intro a E
        refine zp E (zBt E rfl rfl rfl (by first | exact zCh (y := 64) (by omega) | exact w_in (by omega) | exact zBw (by omega) | exact rfl)) ?_; clear E a; intro a E
        refine zp E (zAd E rfl rfl) ?_; clear E a; intro a E
        refine wpList_nil ?_
        refine zBj ?_
        rw [show 64 * j + 64 = 64 * (j + 1) by omega] at E
        exact ⟨_, by omega, j + 1, rfl, by omega, (S.del (A := [(b7, _)]) (by repeat (first | exact pk1 | apply zAc))).front1 (A := [(b3, _)]) (by repeat (first | exact pk1 | apply zAc)), E.keep (zAa rfl (zAa rfl (zAa rfl (zAa rfl zAm))))⟩
  · replace hb := Nrm.nrm hb
    refine wp_exit ?_
    refine zBa ?_; clear hK; clear K
    refine zBa ?_
    refine zCg ?_
    refine zAf hK ?_; clear hK; clear K
    refine wp_seq_k ?_; intro K hK
    obtain ⟨hh, hhe⟩ : ∃ hh, hh = shaH all (all.length / 64) := ⟨_, rfl⟩
    obtain rfl : j = all.length / 64 := by omega
    rw [← hhe] at S
    refine zAb ?_
    refine zp E (zCp (i := 0) E rfl rfl rfl rfl rfl rfl (by omega)) ?_; clear E a; intro a E
    refine zp E (by first | exact zAn E rfl rfl rfl (S.get (by repeat (first | exact pk1 | apply zAc))) rfl | exact zAj E rfl rfl rfl (by assumption)) ?_; clear E a; intro a E
    refine zp E (zBg E rfl rfl rfl rfl rfl) ?_; clear E a; intro a E
    refine zp E (zFt E rfl rfl rfl (by omega) (by simp only [IntKind.bits]; omega) rfl) ?_; clear E a; intro a E
    refine zp E (zCp (i := 1) E rfl rfl rfl rfl rfl rfl (by omega)) ?_; clear E a; intro a E
    refine zp E (by first | exact zAn E rfl rfl rfl (S.get (by repeat (first | exact pk1 | apply zAc))) rfl | exact zAj E rfl rfl rfl (by assumption)) ?_; clear E a; intro a E
    refine zp E (zBg E rfl rfl rfl rfl rfl) ?_; clear E a; intro a E
    refine zp E (zHt E rfl rfl rfl rfl) ?_; clear E a; intro a E
    refine zp E (zCp (i := 2) E rfl rfl rfl rfl rfl rfl (by omega)) ?_; clear E a; intro a E
    refine zp E (by first | exact zAn E rfl rfl rfl (S.get (by repeat (first | exact pk1 | apply zAc))) rfl | exact zAj E rfl rfl rfl (by assumption)) ?_; clear E a; intro a E
    refine zp E (zBg E rfl rfl rfl rfl rfl) ?_; clear E a; intro a E
    refine zp E (zFt E rfl rfl rfl (by omega) (by simp only [IntKind.bits]; omega) rfl) ?_; clear E a; intro a E
    refine zp E (zCp (i := 3) E rfl rfl rfl rfl rfl rfl (by omega)) ?_; clear E a; intro a E
    refine zp E (by first | exact zAn E rfl rfl rfl (S.get (by repeat (first | exact pk1 | apply zAc))) rfl | exact zAj E rfl rfl rfl (by assumption)) ?_; clear E a; intro a E
    refine zp E (zBg E rfl rfl rfl rfl rfl) ?_; clear E a; intro a E
    refine zp E (zHt E rfl rfl rfl rfl) ?_; clear E a; intro a E
    refine zp E (zCp (i := 4) E rfl rfl rfl rfl rfl rfl (by omega)) ?_; clear E a; intro a E
    refine zp E (by first | exact zAn E rfl rfl rfl (S.get (by repeat (first | exact pk1 | apply zAc))) rfl | exact zAj E rfl rfl rfl (by assumption)) ?_; clear E a; intro a E
    refine zp E (zBg E rfl rfl rfl rfl rfl) ?_; clear E a; intro a E
    refine zp E (zFt E rfl rfl rfl (by omega) (by simp only [IntKind.bits]; omega) rfl) ?_; clear E a; intro a E
    refine zp E (zCp (i := 5) E rfl rfl rfl rfl rfl rfl (by omega)) ?_; clear E a; intro a E
    refine zp E (by first | exact zAn E rfl rfl rfl (S.get (by repeat (first | exact pk1 | apply zAc))) rfl | exact zAj E rfl rfl rfl (by assumption)) ?_; clear E a; intro a E
    refine zp E (zBg E rfl rfl rfl rfl rfl) ?_; clear E a; intro a E
    refine zp E (zHt E rfl rfl rfl rfl) ?_; clear E a; intro a E
    refine zp E (zCp (i := 6) E rfl rfl rfl rfl rfl rfl (by omega)) ?_; clear E a; intro a E
    refine zp E (by first | exact zAn E rfl rfl rfl (S.get (by repeat (first | exact pk1 | apply zAc))) rfl | exact zAj E rfl rfl rfl (by assumption)) ?_; clear E a; intro a E
    refine zp E (zBg E rfl rfl rfl rfl rfl) ?_; clear E a; intro a E
    refine zp E (zFt E rfl rfl rfl (by omega) (by simp only [IntKind.bits]; omega) rfl) ?_; clear E a; intro a E
    refine zp E (zCp (i := 7) E rfl rfl rfl rfl rfl rfl (by omega)) ?_; clear E a; intro a E
    refine zp E (by first | exact zAn E rfl rfl rfl (S.get (by repeat (first | exact pk1 | apply zAc))) rfl | exact zAj E rfl rfl rfl (by assumption)) ?_; clear E a; intro a E
    refine zp E (zBg E rfl rfl rfl rfl rfl) ?_; clear E a; intro a E
    refine zp E (zHt E rfl rfl rfl rfl) ?_; clear E a; intro a E
    refine zp E (zCv (cells := [_, _, _, _]) E rfl rfl rfl) ?_; clear E a; intro a E
    refine zAo rfl (zBk E S rfl rfl rfl rfl (by simp [Value.oneCell']) rfl (by repeat (first | exact pk1 | apply zAc)) (by simp) ?_); clear E S a; intro a w E S; simp only [List.take_succ_cons, List.take_zero, List.drop_succ_cons, List.drop_zero, List.cons_append, List.nil_append, List.append_nil, List.length_cons, List.length_nil, Nat.zero_add, Nat.add_zero] at S
    refine wpList_nil ?_
    refine zAf hK ?_; clear hK; clear K
    refine wp_ret ?_
    refine zIe E rfl rfl (S.get (by repeat (first | exact pk1 | apply zAc))) rfl ?_
    exact ⟨_, rfl, by rw [shaF, ← hall, ← hhe]; simp only [S8.fs, Fs.agg, pairN_eq]; rfl, S.tail3.tr⟩
theorem sumof2_ret (D : zAw) (v : Value) (b : List UInt8) (hD : Rd D 1 v b.length (byt b)) (hbl : b.length ≤ 140737488352000) (As : List zAw) (hDA : D ∈ As) (hG : Tab As 2 shaK) (w0 : World) (H : Hp w0 As) :
    Ret Tryz.prog 76 #[.int .i64 2, v] w0 fun u w' => u = .tuple #[(shaF b).agg, .int .i64 0] ∧ Trs w0 w' As As := by
  have S := St.begin H
  refine zCl 21 Tryz.func76 rfl rfl (by decide) ?_; intro a E
  refine wp_seq_k ?_; intro K hK
  refine zAb ?_
  refine zAo rfl (zBy E S rfl rfl (by decide) rfl rfl rfl ?_); clear E S a; intro a w b4 E S
  refine zp E (zAd E rfl rfl) ?_; clear E a; intro a E
  refine wpList_nil ?_
  refine zAf hK ?_; clear hK; clear K
  iterate 2 (refine wp_seq_k ?_; intro K hK)
  refine zAb ?_
  refine zp E (zAe E rfl rfl) ?_; clear E a; intro a E
  refine wpList_nil ?_
  refine zAf hK ?_; clear hK; clear K
  refine wp_block ?_
  refine wp_seq_k ?_; intro K hK
  refine zAb ?_
  refine zp E (by first | exact zCc E rfl rfl rfl | exact zAs E rfl rfl rfl rfl | exact zBb E rfl rfl rfl rfl | exact zAt E rfl rfl rfl) ?_; clear E a; intro a E
  refine zp E (zAd E rfl rfl) ?_; clear E a; intro a E
  refine wpList_nil ?_
  refine zAf hK ?_; clear hK; clear K
  refine zDd E rfl (rfl) ?_
  refine wp_seq_k ?_; intro K hK
  refine zAb ?_
  refine zp E (by first | exact zCc E rfl rfl rfl | exact zAs E rfl rfl rfl rfl | exact zBb E rfl rfl rfl rfl | exact zAt E rfl rfl rfl) ?_; clear E a; intro a E
  refine zp E (zAd E rfl rfl) ?_; clear E a; intro a E
  refine wpList_nil ?_
  refine zAf hK ?_; clear hK; clear K
  refine zCe E rfl (rfl) ?_
  refine wp_seq_k ?_; intro K hK
  refine zAb ?_
  refine zp E (zAe E rfl rfl) ?_; clear E a; intro a E
  refine zAp E rfl rfl (by decide) rfl Tryz.func105 rfl (by kernel_rfl) rfl (sha_ret D v b hD hbl As hDA hG _ S.tail.hp) ?_
  rintro v19 w ⟨rfl, hT⟩; clear E a; intro a E
  have S := St.under [_] S hT
  refine zAo rfl (zBk E S rfl rfl rfl rfl (by simp [Value.oneCell']) rfl (by repeat (first | exact pk1 | apply zAc)) (by simp) ?_); clear E S a; intro a w E S; simp only [List.take_succ_cons, List.take_zero, List.drop_succ_cons, List.drop_zero, List.cons_append, List.nil_append, List.append_nil, List.length_cons, List.length_nil, Nat.zero_add, Nat.add_zero] at S
  refine zp E (zAd E rfl rfl) ?_; clear E a; intro a E
  refine wpList_nil ?_
  refine zAf hK ?_; clear hK; clear K
  refine wp_ret ?_
  refine zCj ?_
  refine zAy ?_; clear hK; clear K
  refine ret_ct E rfl rfl rfl (S.get (by repeat (first | exact pk1 | apply zAc))) rfl ?_
  exact ⟨_, rfl, rfl, S.tail.tr⟩
theorem dsumof2_ret (D : zAw) (v : Value) (b : List UInt8) (hD : Rd D 1 v b.length (byt b)) (hbl : b.length ≤ 140737488352000) (As : List zAw) (hDA : D ∈ As) (hG0 : Tab As 0 sha0.l) (hG1 : Tab As 1 shaK) (w0 : World) (H : Hp w0 As) :
    Ret Tryz.prog 41 #[.int .i64 2, v] w0 fun u w' => u = .tuple #[(shaF b).agg, .int .i64 0] ∧ Trs w0 w' As As := by
  have S := St.begin H
  refine zCl 16 Tryz.func41 rfl rfl (by decide) ?_; intro a E
  refine wp_seq_k ?_; intro K hK
  refine zAb ?_
  refine zAo rfl (zBy E S rfl rfl (by decide) rfl rfl rfl ?_); clear E S a; intro a w b4 E S
  refine zp E (zAd E rfl rfl) ?_; clear E a; intro a E
  refine wpList_nil ?_
  refine zAf hK ?_; clear hK; clear K
  iterate 2 (refine wp_seq_k ?_; intro K hK)
  refine zAb ?_
  refine zp E (zAe E rfl rfl) ?_; clear E a; intro a E
  refine wpList_nil ?_
  refine zAf hK ?_; clear hK; clear K
  refine wp_block ?_
  refine wp_seq_k ?_; intro K hK
  refine zAb ?_
  refine zp E (by first | exact zCc E rfl rfl rfl | exact zAs E rfl rfl rfl rfl | exact zBb E rfl rfl rfl rfl | exact zAt E rfl rfl rfl) ?_; clear E a; intro a E
  refine zp E (zAd E rfl rfl) ?_; clear E a; intro a E
  refine wpList_nil ?_
  refine zAf hK ?_; clear hK; clear K
  refine zDd E rfl (rfl) ?_
  refine wp_seq_k ?_; intro K hK
  refine zAb ?_
  refine zp E (by first | exact zCc E rfl rfl rfl | exact zAs E rfl rfl rfl rfl | exact zBb E rfl rfl rfl rfl | exact zAt E rfl rfl rfl) ?_; clear E a; intro a E
  refine zp E (zAd E rfl rfl) ?_; clear E a; intro a E
  refine wpList_nil ?_
  refine zAf hK ?_; clear hK; clear K
  refine zCe E rfl (rfl) ?_
  refine wp_seq_k ?_; intro K hK
  refine zAb ?_
  refine zp E (zAe E rfl rfl) ?_; clear E a; intro a E
  refine zAp E rfl rfl (by decide) rfl Tryz.func86 rfl (by kernel_rfl) rfl (dsha_ret D v b hD hbl As hDA hG0 hG1 _ S.tail.hp) ?_
  rintro v14 w ⟨rfl, hT⟩; clear E a; intro a E
  have S := St.under [_] S hT
  refine zAo rfl (zBk E S rfl rfl rfl rfl (by simp [Value.oneCell']) rfl (by repeat (first | exact pk1 | apply zAc)) (by simp) ?_); clear E S a; intro a w E S; simp only [List.take_succ_cons, List.take_zero, List.drop_succ_cons, List.drop_zero, List.cons_append, List.nil_append, List.append_nil, List.length_cons, List.length_nil, Nat.zero_add, Nat.add_zero] at S
  refine zp E (zAd E rfl rfl) ?_; clear E a; intro a E
  refine wpList_nil ?_
  refine zAf hK ?_; clear hK; clear K
  refine wp_ret ?_
  refine zCj ?_
  refine zAy ?_; clear hK; clear K
  refine ret_ct E rfl rfl rfl (S.get (by repeat (first | exact pk1 | apply zAc))) rfl ?_
  exact ⟨_, rfl, rfl, S.tail.tr⟩
end Go.Proofs.YtbogecljkaimdaaGreatDoor
namespace Go.Sl
def Fs.ws (s : Fs) : List Nat := [s.a, s.b, s.c, s.d]
def u64n (l : List Nat) : List Value := l.map fun (n : Nat) => Value.int .u64 (n : Int)
theorem u64n_at {l : List Nat} {i : Nat} (h : i < l.length) : (u64n l)[i]? = some (.int .u64 (l[i] : Int)) := by simp [u64n, h]
def zGe (l : List Nat) : List UInt8 := l.flatMap fun n => zBv n 8
def zFa (s : Fs) : List UInt8 := zGe s.ws
theorem zIm (l : List Nat) : (zGe l).length = 8 * l.length := by
  induction l with
  | nil => rfl
  | cons a l ih =>
    have : zGe (a :: l) = zBv a 8 ++ zGe l := rfl
    rw [this, List.length_append, ih, zBc, List.length_cons]; omega
theorem zKl {l : List Nat} {i : Nat} (h : i < l.length) : zGe (l.take (i + 1)) = zGe (l.take i) ++ zBv l[i] 8 := by
  rw [← List.take_append_getElem h]
  simp only [zGe, List.flatMap_append]
  simp
theorem zDu (s : Fs) : (zFa s).length = 32 := by rw [zFa, zIm]; rfl
end Go.Sl
namespace Go.Proofs.YtbogecljkaimdaaGreatDoor
open Go.Sl
set_option maxRecDepth 10000
theorem zIr (s : Fs) (As : List zAw) (w0 : World) (H : Hp w0 As) :
    Ret Tryz.prog 32 #[s.agg] w0 fun u w' => ∃ C, Buf C 5 1 u 32 (byt (zFa s)) ∧ Trs w0 w' As (C :: As) := by
  have S := St.begin H
  obtain ⟨ws, hws⟩ : ∃ ws, ws = s.ws := ⟨_, rfl⟩
  have hwl : ws.length = 4 := by rw [hws]; rfl
  have hwc : u64n ws = [.int .u64 s.a, .int .u64 s.b, .int .u64 s.c, .int .u64 s.d] := by rw [hws]; rfl
  refine zCu 35 Tryz.func32 rfl rfl (by decide) ?_; intro a E
  refine wp_seq_k ?_; intro K hK
  refine zAb ?_
  refine zAo rfl (zCm E S rfl rfl (by decide) rfl rfl ?_); clear E S a; intro a w b1 E S
  refine zp E (zAd E rfl rfl) ?_; clear E a; intro a E
  refine wpList_nil ?_
  refine zAf hK ?_; clear hK; clear K
  refine wp_seq_k ?_; intro K hK
  refine zAb ?_
  refine zp E (zAd E rfl rfl) ?_; clear E a; intro a E
  refine wpList_nil ?_
  refine zAf hK ?_; clear hK; clear K
  iterate 2 (refine wp_seq_k ?_; intro K hK)
  refine zAb ?_
  refine zp E (by first | exact zAg (q := 0) E rfl rfl rfl | exact zAh (q := 0) E rfl rfl rfl) ?_; clear E a; intro a E
  refine zp E (by first | exact zAn E rfl rfl rfl (S.get (by repeat (first | exact pk1 | apply zAc))) rfl | exact zAj E rfl rfl rfl (by assumption)) ?_; clear E a; intro a E
  refine zp E (by first | exact zAg (q := 1) E rfl rfl rfl | exact zAh (q := 1) E rfl rfl rfl) ?_; clear E a; intro a E
  refine zp E (by first | exact zAn E rfl rfl rfl (S.get (by repeat (first | exact pk1 | apply zAc))) rfl | exact zAj E rfl rfl rfl (by assumption)) ?_; clear E a; intro a E
  refine zp E (by first | exact zAg (q := 2) E rfl rfl rfl | exact zAh (q := 2) E rfl rfl rfl) ?_; clear E a; intro a E
  refine zp E (by first | exact zAn E rfl rfl rfl (S.get (by repeat (first | exact pk1 | apply zAc))) rfl | exact zAj E rfl rfl rfl (by assumption)) ?_; clear E a; intro a E
  refine zp E (by first | exact zAg (q := 3) E rfl rfl rfl | exact zAh (q := 3) E rfl rfl rfl) ?_; clear E a; intro a E
  refine zp E (by first | exact zAn E rfl rfl rfl (S.get (by repeat (first | exact pk1 | apply zAc))) rfl | exact zAj E rfl rfl rfl (by assumption)) ?_; clear E a; intro a E
  refine zAo rfl (zDn (cells := [_, _, _, _]) E S rfl rfl (by decide) rfl rfl rfl rfl rfl (by decide) rfl ?_); clear E S a; intro a w b15 E S
  rw [← hwc] at S
  refine zp E (by first | exact zBu E rfl rfl rfl | exact zAx E rfl rfl rfl | exact zAq E rfl rfl rfl) ?_; clear E a; intro a E
  refine zp E (zAe E rfl rfl) ?_; clear E a; intro a E
  refine wpList_nil ?_
  refine zAf hK ?_; clear hK; clear K
  refine wp_block ?_
  refine wp_loop_ghost (fun (m : Nat) (a : Act) (w' : World) => ∃ (i : Nat) (C : zAw) (v : Value), m = 4 - i ∧ i ≤ 4 ∧ Buf C 5 1 v (8 * i) (byt (zGe (ws.take i))) ∧ St w0 As w' (C :: [(b15, cel (u64n ws) 27)] :: As) ∧ Fr a 35 [(3, v), (15, .slice (some ⟨b15, 0, none⟩) 4 4), (16, .int .i64 4), (17, .int .i64 i)]) (4) ?_ ?_
  · exact ⟨0, [], _, by omega, by omega, Buf.nil _ _, S.perm2.tail.addNil, E.keep (zAa rfl (zAa rfl (zAa rfl (zAa rfl zAm))))⟩
  clear E; clear a; (try clear S); rintro m a w ⟨i, C, v, rfl, hi, hB, S, E⟩
  refine wp_seq_k ?_; intro K hK
  refine zAb ?_
  refine zp E (zCk E rfl rfl rfl) ?_; clear E a; intro a E
  refine wpList_nil ?_
  refine zAf hK ?_; clear hK; clear K
  refine wp_seq_k ?_; intro K hK
  refine zBh E rfl (fun hb => ?_) (fun hb => ?_)
  · replace hb := Nrm.nrm hb
    refine wp_skip ?_
    refine zAf hK ?_; clear hK; clear K
    refine wp_seq_k ?_; intro K hK
    refine wp_block ?_
    refine wp_seq_k ?_; intro K hK
    have hil : i < ws.length := by omega
    refine zAb ?_
    refine zp E (by first | exact zBo E rfl rfl rfl rfl rfl rfl (by omega) | exact zBq E rfl rfl rfl rfl rfl rfl (by omega) | exact zBd E rfl rfl rfl rfl rfl rfl (by omega)) ?_; clear E a; intro a E
    refine zp E (zAj E rfl rfl rfl (by rw [Nat.zero_add]; exact zCw (S.get (by repeat (first | exact pk1 | apply zAc))) (u64n_at hil))) ?_; clear E a; intro a E
    refine zp E (zAd E rfl rfl) ?_; clear E a; intro a E
    refine wpList_nil ?_
    refine zAf hK ?_; clear hK; clear K
    refine wp_seq_k ?_; intro K hK
    refine zAb ?_
    refine zp E (zAe E rfl rfl) ?_; clear E a; intro a E
    refine wpList_nil ?_
    refine zAf hK ?_; clear hK; clear K
    refine wp_block ?_
    refine wp_loop_ghost (fun (m : Nat) (a : Act) (w' : World) => ∃ (j : Nat) (C : zAw) (v : Value), m = 8 - j ∧ j ≤ 8 ∧ Buf C 5 1 v (8 * i + j) (byt (zGe (ws.take i) ++ zBv ws[i] j)) ∧ St w0 As w' (C :: [(b15, cel (u64n ws) 27)] :: As) ∧ Fr a 35 [(3, v), (5, .int .u64 ws[i]), (15, .slice (some ⟨b15, 0, none⟩) 4 4), (16, .int .i64 4), (17, .int .i64 i), (21, .int .i64 j)]) (8) ?_ ?_
    · exact ⟨0, C, v, by omega, by omega, by simpa [zBv] using hB, S, E.keep (zAa rfl (zAa rfl (zAa rfl (zAa rfl (zAa rfl (zAa rfl zAm))))))⟩
    clear E; clear a; (try clear S); rintro m a w ⟨j, C, v, rfl, hj, hB, S, E⟩
    refine wp_seq_k ?_; intro K hK
    refine zAb ?_
    refine zp E (zCk E rfl rfl rfl) ?_; clear E a; intro a E
    refine wpList_nil ?_
    refine zAf hK ?_; clear hK; clear K
    refine wp_seq_k ?_; intro K hK
    refine zBh E rfl (fun hb => ?_) (fun hb => ?_)
    · replace hb := Nrm.nrm hb
      refine wp_skip ?_
      refine zAf hK ?_; clear hK; clear K
      refine wp_seq_k ?_; intro K hK
      refine wp_block ?_
      refine wp_seq_k ?_; intro K hK
      refine zAb ?_
      refine zp E (zAe E rfl rfl) ?_; clear E a; intro a E
      refine zp E (zAd E rfl rfl) ?_; clear E a; intro a E
      refine wpList_nil ?_
      refine zAf hK ?_; clear hK; clear K
      refine zAb ?_
      iterate 3 (refine zp E (zAe E rfl rfl) ?_; clear E a; intro a E)
      refine zp E (zFm E rfl rfl rfl (by first | exact zGr (x := 8) (by omega) | exact zFd (x := 8) (by omega) | exact w_in (by omega) | exact rfl)) ?_; clear E a; intro a E
      refine zp E (zHp E rfl rfl rfl (by omega) (by simp only [IntKind.bits]; omega) shru) ?_; clear E a; intro a E
      refine zp E (zBg E rfl rfl rfl rfl (w8 _)) ?_; clear E a; intro a E
      refine zAo rfl (zDn (cells := [_]) E S rfl rfl (by decide) rfl rfl rfl rfl rfl (by decide) rfl ?_); clear E S a; intro a w b30 E S
      refine zAo rfl (zCn (by' := 1) E S rfl rfl (by decide) rfl rfl hB (by repeat (first | exact pk1 | apply zAc)) ((zFf (g := b30) (T := 5) (xs := [.int .u8 (UInt8.ofNat (ws[i] / 2 ^ (8 * j))).toNat]) (s := 1) (m := 1) rfl (by simp [Value.oneCell']) (by omega) 1).src (S.stab.at (by repeat (first | exact mm1 | assumption | apply List.Mem.tail))) rfl) rfl rfl rfl rfl rfl rfl (by simp only [maxLen]; omega) (by omega) ?_); clear E S a; intro a w v31 C31 E S hB31
      refine zp E (zAd E rfl rfl) ?_; clear E a; intro a E
      refine wpList_nil ?_
      refine zBe ?_
      refine zAf hK ?_; clear hK; clear K
      refine zAb ?_
      refine zp E (zBt E rfl rfl rfl (by first | exact zCh (y := 1) (by omega) | exact w_in (by omega) | exact zBw (by omega) | exact rfl)) ?_; clear E a; intro a E
      refine zp E (zAe E rfl rfl) ?_; clear E a; intro a E
      refine wpList_nil ?_
      refine zBj ?_
      exact ⟨_, by omega, j + 1, C31, v31, rfl, by omega, by rw [zBv, ← List.append_assoc, zDq]; exact hB31, S.perm2.tail, E.keep (zAa rfl (zAa rfl (zAa rfl (zAa rfl (zAa rfl (zAa rfl zAm))))))⟩
    · replace hb := Nrm.nrm hb
      refine wp_exit ?_
      refine zBa ?_; clear hK; clear K
      refine zBa ?_
      refine zCg ?_
      refine zBe ?_
      refine zAf hK ?_; clear hK; clear K
      refine zAb ?_
      refine zp E (zBt E rfl rfl rfl (by first | exact zCh (y := 1) (by omega) | exact w_in (by omega) | exact zBw (by omega) | exact rfl)) ?_; clear E a; intro a E
      refine zp E (zAe E rfl rfl) ?_; clear E a; intro a E
      refine wpList_nil ?_
      refine zBj ?_
      obtain rfl : j = 8 := by omega
      exact ⟨_, by omega, i + 1, C, v, rfl, by omega, by rw [zKl hil]; exact hB, S, E.keep (zAa rfl (zAa rfl (zAa rfl (zAa rfl zAm))))⟩
  · replace hb := Nrm.nrm hb
    refine wp_exit ?_
    refine zBa ?_; clear hK; clear K
    refine zBa ?_
    refine zCg ?_
    refine zAf hK ?_; clear hK; clear K
    refine wp_seq_k ?_; intro K hK
    refine zAb ?_
    refine zp E (zAe E rfl rfl) ?_; clear E a; intro a E
    refine zp E (zAd E rfl rfl) ?_; clear E a; intro a E
    refine wpList_nil ?_
    refine zAf hK ?_; clear hK; clear K
    refine wp_ret ?_
    refine ret1 E rfl rfl ?_
    obtain rfl : i = 4 := by omega
    rw [List.take_of_length_le (by omega), hws] at hB
    exact ⟨_, rfl, C, hB, S.perm2.tail.tr⟩
theorem over_ret (s : Fs) (D : zAw) (v : Value) (b : List UInt8) (hD : Rd D 1 v b.length (byt b)) (hbl : b.length ≤ 140737488351000) (As : List zAw) (hDA : D ∈ As) (hG : Tab As 2 shaK) (w0 : World) (H : Hp w0 As) :
    Ret Tryz.prog 31 #[v, s.agg] w0 fun u w' => u = (shaF (zFa s ++ b)).agg ∧ Trs w0 w' As As := by
  have S := St.begin H
  have hsl := zDu s
  refine zCl 16 Tryz.func31 rfl rfl (by decide) ?_; intro a E
  refine wp_seq_k ?_; intro K hK
  refine zAb ?_
  refine zAo rfl (zCm E S rfl rfl (by decide) rfl rfl ?_); clear E S a; intro a w b3 E S
  refine zAo rfl (zBy E S rfl rfl (by decide) rfl rfl rfl ?_); clear E S a; intro a w b4 E S
  refine wpList_nil ?_
  refine zAf hK ?_; clear hK; clear K
  refine wp_seq_k ?_; intro K hK
  refine zAb ?_
  refine zp E (zBn (vs := [_, _, _, _]) E rfl rfl rfl (S.get (by repeat (first | exact pk1 | apply zAc))) rfl rfl) ?_; clear E a; intro a E
  refine zAp E rfl rfl (by decide) rfl Tryz.func32 rfl (by kernel_rfl) rfl (zIr s _ _ S.hp) ?_
  rintro v9 w ⟨C, hC, hT⟩; clear E a; intro a E
  have S := S.all hT
  refine zp E (zAe E rfl rfl) ?_; clear E a; intro a E
  refine zAo rfl (zCn (by' := 1) E S rfl rfl (by decide) rfl rfl hC (by repeat (first | exact pk1 | apply zAc)) (hD.src (S.stab.at (List.Mem.tail _ (List.Mem.tail _ (List.Mem.tail _ hDA)))) rfl) rfl rfl rfl rfl rfl rfl (by simp only [maxLen]; omega) (by omega) ?_); clear E S a; intro a w v11 C11 E S hB11
  have hR : Rd C11 1 v11 (zFa s ++ b).length (byt (zFa s ++ b)) := by rw [List.length_append, hsl, zDq]; exact hB11.rd
  refine zAp E rfl rfl (by decide) rfl Tryz.func76 rfl (by kernel_rfl) rfl (sumof2_ret C11 v11 (zFa s ++ b) hR (by rw [List.length_append]; omega) _ (by repeat (first | exact mm1 | assumption | apply List.Mem.tail)) hG.tail.tail.tail _ S.hp) ?_
  rintro v12 w ⟨rfl, hT⟩; clear E a; intro a E
  have S := S.all hT
  refine zp E (zAe E rfl rfl) ?_; clear E a; intro a E
  iterate 2 (refine zp E (zBr E rfl rfl rfl) ?_; clear E a; intro a E)
  refine zAo rfl (zBy E S rfl rfl (by decide) rfl rfl rfl ?_); clear E S a; intro a w b5 E S
  refine zAo rfl (zBk E S rfl rfl rfl rfl (by simp [Value.oneCell']) rfl (by repeat (first | exact pk1 | apply zAc)) (by simp) ?_); clear E S a; intro a w E S; simp only [List.take_succ_cons, List.take_zero, List.drop_succ_cons, List.drop_zero, List.cons_append, List.nil_append, List.append_nil, List.length_cons, List.length_nil, Nat.zero_add, Nat.add_zero] at S
  refine zp E (zAd E rfl rfl) ?_; clear E a; intro a E
  refine wpList_nil ?_
  refine zAf hK ?_; clear hK; clear K
  refine wp_seq_k ?_; intro K hK
  refine zAb ?_
  refine zp E (zBn (vs := [_, _, _, _]) E rfl rfl rfl (S.get (by repeat (first | exact pk1 | apply zAc))) rfl rfl) ?_; clear E a; intro a E
  refine zAo rfl (zBk E S rfl rfl rfl rfl (by simp [Value.oneCell']) rfl (by repeat (first | exact pk1 | apply zAc)) (by simp) ?_); clear E S a; intro a w E S; simp only [List.take_succ_cons, List.take_zero, List.drop_succ_cons, List.drop_zero, List.cons_append, List.nil_append, List.append_nil, List.length_cons, List.length_nil, Nat.zero_add, Nat.add_zero] at S
  refine wpList_nil ?_
  refine zAf hK ?_; clear hK; clear K
  refine wp_ret ?_
  refine zIe E rfl rfl (S.get (by repeat (first | exact pk1 | apply zAc))) rfl ?_
  exact ⟨_, rfl, rfl, (S.tail3.tail).tr⟩
end Go.Proofs.YtbogecljkaimdaaGreatDoor
namespace Go.Sl
def headB (k : Int) (n : Nat) : List UInt8 := zBv k.toNat 1 ++ zBv n 4
theorem zGz (k : Int) (n : Nat) : (headB k n).length = 5 := by simp [headB, zBc]
def zFx (k : Int) (b : List UInt8) : List UInt8 := headB k b.length ++ b
def ownS (k : Int) (b : List UInt8) (s : Fs) : Fs := shaF (zFa s ++ zFx k b)
def zDj (k : Int) (b : List UInt8) (s : Fs) : List UInt8 := zFx k b ++ zFa (ownS k b s)
theorem zEu (k : Int) (b : List UInt8) : (zFx k b).length = 5 + b.length := by rw [zFx, List.length_append, zGz]
theorem zGn (k : Int) (b : List UInt8) (s : Fs) : (zDj k b s).length = 37 + b.length := by rw [zDj, List.length_append, zEu, zDu]; omega
end Go.Sl
namespace Go.Proofs.YtbogecljkaimdaaGreatDoor
open Go.Sl
set_option maxRecDepth 10000
theorem ckE_no {r : Rec} (h : ckE r ≠ 0) : ckB r = false := by
  cases hc : ckB r with
  | false => rfl
  | true => simp [ckE, hc] at h
theorem ckE_yes {r : Rec} (h : ckE r = 0) : ckB r = true := by
  cases hc : ckB r with
  | true => rfl
  | false => simp [ckE, hc] at h
theorem zKm {r : Rec} (h : ckB r = true) : inK r.kind ∧ mayK r.kind r = true := by
  simp only [ckB, Bool.and_eq_true, decide_eq_true_eq] at h
  exact ⟨h.1, h.2.1⟩
theorem zKn {r : Rec} {k : Int} (hk : inK k) (h : mayK k r = true) : (zEl k r).length ≤ 2048 := by
  rcases zEt hk with rfl | rfl | rfl | rfl | rfl | rfl | rfl
  · have := zJl h
    show (body1 r).length ≤ 2048
    simp only [body1, List.length_append, zCr, zBc]; omega
  · obtain ⟨q1, q2, q3, q4, q5, q6, q7⟩ := (zDw r).1 h
    have h1 := beh_len q1
    have h2 := zHh q6
    have h3 := zJm q7
    have h4 := zKf h3.2
    show (body2 r).length ≤ 2048
    simp only [body2, List.length_append, zCr, zBc]; omega
  · have := zGy (l := r.keep) h
    show (body3 r).length ≤ 2048
    simp only [body3, List.length_append, zEz, zBc]; omega
  · have h : may4 r = true := h
    simp only [may4, Bool.and_eq_true, decide_eq_true_eq] at h
    have := zGy h.2.2
    show (body4 r).length ≤ 2048
    simp only [body4, List.length_append, zEz, zBc]; omega
  · have h : may5 r = true := h
    simp only [may5, Bool.and_eq_true, decide_eq_true_eq] at h
    show (body5 r).length ≤ 2048
    simp only [body5, List.length_append, zBc]; omega
  · show (body6 r).length ≤ 2048
    simp only [body6, zBc]; omega
  · show (body6 r).length ≤ 2048
    simp only [body6, zBc]; omega
def encP (r : Rec) (s : Fs) (As : List zAw) (w0 : World) (u : Value) (w' : World) : Prop :=
  (ckB r = false ∧ u = .tuple #[.slice none 0 0, zGd.agg, .int .i64 200] ∧ Trs w0 w' As As) ∨
  (ckB r = true ∧ ∃ v D, u = .tuple #[v, (ownS r.kind (zEl r.kind r) s).agg, .int .i64 0] ∧ Buf D 5 1 v (zDj r.kind (zEl r.kind r) s).length (byt (zDj r.kind (zEl r.kind r) s)) ∧ Trs w0 w' As (D :: As))
theorem zLg {C : zAw} {r : Rec} {pv kv dv : Value} (hR : RecR C r pv kv dv) (hs : Sml r) (s : Fs) {As : List zAw} (hC : C ∈ As) (hG : Tab As 2 shaK) (w0 : World) (H : Hp w0 As) :
    Ret Tryz.prog 12 #[.agg (r.cells pv kv dv).toArray, s.agg] w0 (encP r s As w0) := by
  have S := St.begin H
  obtain ⟨ad1, c1, rfl⟩ := hR.pr.slice
  obtain ⟨ad2, c2, rfl⟩ := hR.kr.slice
  obtain ⟨ad3, c3, rfl⟩ := hR.dr.slice
  refine zCl 62 Tryz.func12 rfl rfl (by decide) ?_; intro a E
  refine wp_seq_k ?_; intro K hK
  refine zAb ?_
  refine zAo rfl (zCm E S rfl rfl (by decide) rfl rfl ?_); clear E S a; intro a w b2 E S
  refine zAo rfl (zCm E S rfl rfl (by decide) rfl rfl ?_); clear E S a; intro a w b3 E S
  refine zp E (zAd E rfl rfl) ?_; clear E a; intro a E
  refine zAo rfl (zBy E S rfl rfl (by decide) rfl rfl rfl ?_); clear E S a; intro a w b5 E S
  refine zp E (zAd E rfl rfl) ?_; clear E a; intro a E
  refine wpList_nil ?_
  refine zAf hK ?_; clear hK; clear K
  iterate 2 (refine wp_seq_k ?_; intro K hK)
  refine zAb ?_
  refine zp E (zBn (vs := [_, _, _, _, _, _, _, _, _, _, _, _, _]) E rfl rfl rfl (S.get (by repeat (first | exact pk1 | apply zAc))) rfl rfl) ?_; clear E a; intro a E
  refine zAp E rfl rfl (by decide) rfl Tryz.func11 rfl (by kernel_rfl) rfl (zIk hR hs (List.mem_cons_of_mem _ (List.mem_cons_of_mem _ (List.mem_cons_of_mem _ hC))) _ S.hp) ?_
  rintro v16 w ⟨rfl, hT⟩; clear E a; intro a E
  have S := S.all hT
  refine zp E (zAd E rfl rfl) ?_; clear E a; intro a E
  refine wpList_nil ?_
  refine zAf hK ?_; clear hK; clear K
  refine wp_seq_k ?_; intro K hK
  refine zAb ?_
  refine zp E (zAe E rfl rfl) ?_; clear E a; intro a E
  refine zp E (by first | exact zDa E rfl rfl rfl | exact zBi E rfl rfl rfl rfl | exact zBs E rfl rfl rfl rfl | exact zBl E rfl rfl rfl) ?_; clear E a; intro a E
  refine wpList_nil ?_
  refine zAf hK ?_; clear hK; clear K
  refine zBh E rfl (fun hb => ?_) (fun hb => ?_)
  · replace hb := Nrm.nrm hb
    have hck := ckE_no hb
    refine wp_seq_k ?_; intro K hK
    refine zAb ?_
    refine zp E (zCv (cells := [_, _, _, _]) E rfl rfl rfl) ?_; clear E a; intro a E
    refine zp E (zAe E rfl rfl) ?_; clear E a; intro a E
    refine zp E (zAd E rfl rfl) ?_; clear E a; intro a E
    refine zAo rfl (zBk E S rfl rfl rfl rfl (by simp [Value.oneCell']) rfl (by repeat (first | exact pk1 | apply zAc)) (by simp) ?_); clear E S a; intro a w E S; simp only [List.take_succ_cons, List.take_zero, List.drop_succ_cons, List.drop_zero, List.cons_append, List.nil_append, List.append_nil, List.length_cons, List.length_nil, Nat.zero_add, Nat.add_zero] at S
    refine zp E (zAd E rfl rfl) ?_; clear E a; intro a E
    refine wpList_nil ?_
    refine zAf hK ?_; clear hK; clear K
    refine wp_ret ?_
    refine zAy ?_; clear hK; clear K
    refine ret_tct E rfl rfl rfl rfl (S.get (by repeat (first | exact pk1 | apply zAc))) rfl ?_
    exact ⟨_, rfl, .inl ⟨hck, by rw [show ckE r = 200 by simp [ckE, hck]]; rfl, S.tail3.tr⟩⟩
  · replace hb := Nrm.nrm hb
    have hck := ckE_yes hb
    refine wp_skip ?_
    refine zAf hK ?_; clear hK; clear K
    refine wp_seq_k ?_; intro K hK
    obtain ⟨hk, hm⟩ := zKm hck
    obtain ⟨fn, q1, q2, q3⟩ := layF_fn hk
    obtain ⟨ix, hrow⟩ := row_is hk
    have hbl := zKn hk hm
    refine zAb ?_
    refine zAp E rfl rfl (by decide) rfl Tryz.func28 rfl (by kernel_rfl) rfl (zLb 2048 _) ?_
    rintro v21 w ⟨p, A, rfl, hA, hT⟩; clear E a; intro a E
    have S := S.fresh hT
    refine zp E (zAd E rfl rfl) ?_; clear E a; intro a E
    refine wpList_nil ?_
    refine zAf hK ?_; clear hK; clear K
    refine wp_seq_k ?_; intro K hK
    refine zDp S (.ofL [(1, 0), (2, 0), (5, 0), (6, 0), (0, 1), (3, 1), (4, 0), (7, 3)]) [[(b2, cel (r.cells (.slice ad1 r.props.length c1) (.slice ad2 r.keep.length c2) (.slice ad3 r.data.length c3)) 26)]] (fun h => h.sub (by first | (simp; done) | (simp +contextual; done) | (simp [*]; done))) (by kernel_rfl) (by kernel_rfl) ?_
    clear S; intro w S
    refine zm E rfl (fun w h => by first | exact zAg (q := 0) E rfl rfl rfl | exact zAh (q := 0) E rfl rfl rfl) ?_; clear E a; intro a E
    refine zm E rfl (fun w h => by first | exact zAn E rfl rfl rfl (h.one (by repeat (first | exact mm1 | assumption | apply List.Mem.tail))) rfl | exact zAj E rfl rfl rfl (by assumption)) ?_; clear E a; intro a E
    refine zm E rfl (fun w h => zAe E rfl rfl) ?_; clear E a; intro a E
    refine zm E rfl (fun w h => zBn (vs := [_, _, _, _, _, _, _, _, _, _, _, _, _]) E rfl rfl rfl (h.one (by repeat (first | exact mm1 | assumption | apply List.Mem.tail))) rfl rfl) ?_; clear E a; intro a E
    refine zCd E rfl rfl rfl (by decide) rfl Tryz.func25 rfl (by kernel_rfl) rfl (zJk _ _ S.hp) ?_
    rintro v22 w ⟨g, rfl, hT⟩; clear E a; intro a E
    have S := S.all hT
    refine ⟨S.stab.sub (by first | (simp; done) | (simp +contextual; done) | (simp [*]; done)), ?_⟩
    refine zDm rfl rfl (zGj E (rn_lookup1 (v := .agg [fnv (mayF r.kind), fnv (layF r.kind), fnv (takF r.kind)].toArray) E rfl rfl rfl rfl rfl (S.get (by repeat (first | exact pk1 | apply zAc))) hrow) rfl (by decide) ?_); clear E a; intro a E; refine ⟨S.stab.sub (by first | (simp; done) | (simp +contextual; done) | (simp [*]; done)), ?_⟩
    refine zm E rfl (fun w h => rn_field E rfl rfl rfl rfl rfl rfl rfl) ?_; clear E a; intro a E
    have S := S.front1 (A := A) (by repeat (first | exact pk1 | apply zAc))
    refine mix_callc3 E rfl rfl rfl (by decide) rfl rfl q1 q2 q3 rfl (layK_ret hR (by repeat (first | exact mm1 | assumption | apply List.Mem.tail)) p A hA _ S.hp hk hm) ?_
    rintro v29 w ⟨A1, hA1, hT⟩; clear E a; intro a E
    have S := S.all hT
    refine zBz ?_
    refine zAf hK ?_; clear hK; clear K
    refine wp_seq_k ?_; intro K hK
    obtain ⟨body, hbody⟩ : ∃ body, body = zEl r.kind r := ⟨_, rfl⟩
    rw [← hbody] at hA1 hbl
    refine zAb ?_
    refine zp E (zAe E rfl rfl) ?_; clear E a; intro a E
    refine zAp E rfl rfl (by decide) rfl Tryz.func29 rfl (by kernel_rfl) rfl (done_fit p 2048 body A1 _ hA1 (S.hp.sel (zAl (by repeat (first | exact pk1 | apply zAc)) (zAu _))) (by omega)) ?_
    rintro v32 w ⟨g1, rfl, hT⟩; clear E a; intro a E
    have S := S.call2 (zAl (by repeat (first | exact pk1 | apply zAc)) (zAu _)) hT
    refine zp E (zAe E rfl rfl) ?_; clear E a; intro a E
    iterate 2 (refine zp E (zBr E rfl rfl rfl) ?_; clear E a; intro a E)
    iterate 2 (refine zp E (zAd E rfl rfl) ?_; clear E a; intro a E)
    refine wpList_nil ?_
    refine zAf hK ?_; clear hK; clear K
    refine wp_seq_k ?_; intro K hK
    replace E := E.keep (e' := [(2, _), (3, _), (4, _), (5, _), (6, _), (9, _)]) (zAa rfl (zAa rfl (zAa rfl (zAa rfl (zAa rfl (zAa rfl (zAm)))))))
    refine zAb ?_
    refine zAp E rfl rfl (by decide) rfl Tryz.func28 rfl (by kernel_rfl) rfl (zLb 5 _) ?_
    rintro v35 w ⟨p2, B, rfl, hB, hT⟩; clear E a; intro a E
    have S := S.fresh hT
    refine zp E (zAd E rfl rfl) ?_; clear E a; intro a E
    refine wpList_nil ?_
    refine zAf hK ?_; clear hK; clear K
    refine wp_seq_k ?_; intro K hK
    refine zAb ?_
    refine zp E (zAe E rfl rfl) ?_; clear E a; intro a E
    refine zp E (by first | exact zAg (q := 0) E rfl rfl rfl | exact zAh (q := 0) E rfl rfl rfl) ?_; clear E a; intro a E
    refine zp E (by first | exact zAn E rfl rfl rfl (S.get (by repeat (first | exact pk1 | apply zAc))) rfl | exact zAj E rfl rfl rfl (by assumption)) ?_; clear E a; intro a E
    refine zp E (zBg E rfl rfl rfl rfl (zKd (by have := hk.1; omega) (by have := hk.2; omega))) ?_; clear E a; intro a E
    refine zAp E rfl rfl (by decide) rfl Tryz.func30 rfl (by kernel_rfl) rfl (zEp p2 5 [] B _ hB r.kind.toNat 1 (S.hp.sel (zAl (by repeat (first | exact pk1 | apply zAc)) (zAu _))) (by omega) (by omega) (by omega) (by have := hk.2; omega) (by simp only [List.length_nil]; omega)) ?_
    rintro v40 w ⟨B1, hB1, hT⟩; clear E a; intro a E
    have S := S.call1 (zAl (by repeat (first | exact pk1 | apply zAc)) (zAu _)) hT
    refine wpList_nil ?_
    refine zAf hK ?_; clear hK; clear K
    refine wp_seq_k ?_; intro K hK
    refine zAb ?_
    iterate 2 (refine zp E (zAe E rfl rfl) ?_; clear E a; intro a E)
    refine zp E (by first | exact zBu E rfl rfl rfl | exact zAx E rfl rfl rfl | exact zAq E rfl rfl rfl) ?_; clear E a; intro a E
    refine zp E (by first | exact zBg E rfl rfl rfl rfl (by first | exact wu8 _ | exact zFe (by omega) | exact zDz (by omega) | exact w_in (by omega) | exact zBw (by omega) | exact rfl) | exact zCi E rfl rfl rfl rfl rfl (by assumption) (S.stab.at (by simp))) ?_; clear E a; intro a E
    refine zAp E rfl rfl (by decide) rfl Tryz.func30 rfl (by kernel_rfl) rfl (zEp p2 5 _ B1 _ hB1 body.length 4 (S.hp.sel (zAl (by repeat (first | exact pk1 | apply zAc)) (zAu _))) (by omega) (by omega) (by omega) (by omega) (by simp only [List.nil_append, zBc]; omega)) ?_
    rintro v45 w ⟨B2, hB2, hT⟩; clear E a; intro a E
    have S := S.call1 (zAl (by repeat (first | exact pk1 | apply zAc)) (zAu _)) hT
    refine wpList_nil ?_
    refine zAf hK ?_; clear hK; clear K
    refine wp_seq_k ?_; intro K hK
    have hhd : [] ++ zBv r.kind.toNat 1 ++ zBv body.length 4 = headB r.kind body.length := rfl
    rw [hhd] at hB2
    obtain ⟨hd, hhd2⟩ : ∃ hd, hd = headB r.kind body.length := ⟨_, rfl⟩
    rw [← hhd2] at hB2
    have hdl : hd.length = 5 := by rw [hhd2, zGz]
    refine zAb ?_
    refine zp E (zAe E rfl rfl) ?_; clear E a; intro a E
    refine zAp E rfl rfl (by decide) rfl Tryz.func29 rfl (by kernel_rfl) rfl (done_fit p2 5 hd B2 _ hB2 (S.hp.sel (zAl (by repeat (first | exact pk1 | apply zAc)) (zAu _))) (by omega)) ?_
    rintro v48 w ⟨g2, rfl, hT⟩; clear E a; intro a E
    have S := S.call2 (zAl (by repeat (first | exact pk1 | apply zAc)) (zAu _)) hT
    refine zp E (zAe E rfl rfl) ?_; clear E a; intro a E
    iterate 2 (refine zp E (zBr E rfl rfl rfl) ?_; clear E a; intro a E)
    iterate 2 (refine zp E (zAd E rfl rfl) ?_; clear E a; intro a E)
    refine wpList_nil ?_
    refine zAf hK ?_; clear hK; clear K
    refine wp_seq_k ?_; intro K hK
    replace E := E.keep (e' := [(3, _), (4, _), (5, _), (6, _), (9, _), (12, _)]) (zAa rfl (zAa rfl (zAa rfl (zAa rfl (zAa rfl (zAa rfl (zAm)))))))
    refine zAb ?_
    iterate 2 (refine zp E (zAe E rfl rfl) ?_; clear E a; intro a E)
    refine zAo rfl (zCn (by' := 1) E S rfl rfl (by decide) rfl rfl (zIh g2 hd 5 (by omega)) (by repeat (first | exact pk1 | apply zAc)) ((rd_block (g := g1) (b := body) (T := 5) rfl (by omega) body.length).src (S.stab.at (by repeat (first | exact mm1 | assumption | apply List.Mem.tail))) rfl) rfl rfl rfl rfl rfl rfl (by simp only [maxLen]; omega) (by omega) ?_); clear E S a; intro a w v53 C53 E S hB53
    refine zp E (zAd E rfl rfl) ?_; clear E a; intro a E
    refine wpList_nil ?_
    refine zAf hK ?_; clear hK; clear K
    refine wp_seq_k ?_; intro K hK
    obtain ⟨fb, hfb⟩ : ∃ fb, fb = zFx r.kind body := ⟨_, rfl⟩
    have hfl : fb.length = 5 + body.length := by rw [hfb, zEu]
    have hfr : Buf C53 5 1 v53 fb.length (byt fb) := by
      have e5 : fb.length = hd.length + body.length := by omega
      rw [e5, hfb, zFx, ← hhd2, zDq]
      exact hB53
    refine zAb ?_
    refine zp E (zAe E rfl rfl) ?_; clear E a; intro a E
    refine zp E (zBn (vs := [_, _, _, _]) E rfl rfl rfl (S.get (by repeat (first | exact pk1 | apply zAc))) rfl rfl) ?_; clear E a; intro a E
    refine zAp E rfl rfl (by decide) rfl Tryz.func31 rfl (by kernel_rfl) rfl (over_ret s C53 v53 fb hfr.rd (by omega) _ (by repeat (first | exact mm1 | assumption | apply List.Mem.tail)) (by repeat (first | exact hG | apply Tab.tail)) _ S.hp) ?_
    rintro v56 w ⟨he, hT⟩; clear E a; intro a E
    have S := S.all hT; obtain ⟨own, hown⟩ : ∃ own, own = shaF (zFa s ++ fb) := ⟨_, rfl⟩; rw [← hown] at he; subst he
    refine zAo rfl (zBy E S rfl rfl (by decide) rfl rfl rfl ?_); clear E S a; intro a w b14 E S
    refine zAo rfl (zBk E S rfl rfl rfl rfl (by simp [Value.oneCell']) rfl (by repeat (first | exact pk1 | apply zAc)) (by simp) ?_); clear E S a; intro a w E S; simp only [List.take_succ_cons, List.take_zero, List.drop_succ_cons, List.drop_zero, List.cons_append, List.nil_append, List.append_nil, List.length_cons, List.length_nil, Nat.zero_add, Nat.add_zero] at S
    refine wpList_nil ?_
    refine zAf hK ?_; clear hK; clear K
    refine wp_seq_k ?_; intro K hK
    refine zDp S (.ofL [(0, 0), (1, 0), (4, 0), (2, 1), (3, 1), (5, 0), (6, 3), (7, 2)]) [[(b14, cel [.int .u64 own.a, .int .u64 own.b, .int .u64 own.c, .int .u64 own.d] 29)]] (fun h => h.sub (by first | (simp; done) | (simp +contextual; done) | (simp [*]; done))) (by kernel_rfl) (by kernel_rfl) ?_
    clear S; intro w S
    refine zm E rfl (fun w h => zAe E rfl rfl) ?_; clear E a; intro a E
    iterate 2 (refine zm E rfl (fun w h => zBn (vs := [_, _, _, _]) E rfl rfl rfl (h.one (by repeat (first | exact mm1 | assumption | apply List.Mem.tail))) rfl rfl) ?_; clear E a; intro a E)
    refine zCd E rfl rfl rfl (by decide) rfl Tryz.func32 rfl (by kernel_rfl) rfl (zIr own _ _ S.hp) ?_
    rintro v59 w ⟨D2, hD2, hT⟩; clear E a; intro a E
    have S := S.all hT
    refine ⟨S.stab.sub (by first | (simp; done) | (simp +contextual; done) | (simp [*]; done)), ?_⟩
    refine zDm rfl rfl (zCn (by' := 1) E S rfl rfl (by decide) rfl rfl hfr (by repeat (first | exact pk1 | apply zAc)) (hD2.rd.src (S.stab.at (by repeat (first | exact mm1 | assumption | apply List.Mem.tail))) rfl) rfl rfl rfl rfl rfl rfl (by simp only [maxLen]; omega) (by omega) ?_); clear E S a; intro a w v60 C60 E S hB60; refine ⟨S.stab.sub (by first | (simp; done) | (simp +contextual; done) | (simp [*]; done)), ?_⟩
    refine zm E rfl (fun w h => zAd E rfl rfl) ?_; clear E a; intro a E
    refine zCt rfl rfl (zBk E S rfl rfl rfl rfl (by simp [Value.oneCell']) rfl (by repeat (first | exact pk1 | apply zAc)) (by simp) ?_); clear E S a; intro a w E S; simp only [List.take_succ_cons, List.take_zero, List.drop_succ_cons, List.drop_zero, List.cons_append, List.nil_append, List.append_nil, List.length_cons, List.length_nil, Nat.zero_add, Nat.add_zero] at S
    refine zDi E rfl rfl rfl (by decide) (fun w => zAd E rfl rfl) ?_; clear E a; intro a E
    refine zBz ?_
    refine zAf hK ?_; clear hK; clear K
    refine wp_ret ?_
    refine ret_tct E rfl rfl rfl rfl (S.get (by repeat (first | exact pk1 | apply zAc))) rfl ?_
    have hlen := zDu own
    have hpb : zDj r.kind (zEl r.kind r) s = fb ++ zFa own := by rw [zDj, ownS, ← hbody, ← hfb, ← hown]
    have howns : ownS r.kind (zEl r.kind r) s = own := by rw [ownS, ← hbody, ← hfb, ← hown]
    refine ⟨_, rfl, .inr ⟨hck, v60, C60, by rw [howns], ?_, ?_⟩⟩
    · rw [hpb, zDq, List.length_append, hlen]; exact hB60
    · exact (St.drops [_, _, _, _, _, _, _, _, _] (S.front1 (A := C60) (by repeat (first | exact pk1 | apply zAc)))).tr
end Go.Proofs.YtbogecljkaimdaaGreatDoor
namespace Go.Sl
theorem zEq (s : Rdr) (k : Nat) : (s.num k).1 < 256 ^ k := by
  have hp : 0 < 256 ^ k := Nat.pow_pos (by omega)
  unfold Rdr.num
  split
  · exact hp
  · split
    · exact hp
    · split
      · exact hp
      · rw [Int.toNat_natCast]
        exact Nat.lt_of_lt_of_le (zHf _) (Nat.pow_le_pow_right (by omega) (by simp only [Rdr.cut, List.length_take]; omega))
def zHo (size : Nat) (less : Int) (s : Rdr) : Nat → List Int × Rdr
  | 0 => ([], s)
  | i + 1 => ((zHo size less s i).1 ++ [(((zHo size less s i).2.num size).1 : Int) - less], ((zHo size less s i).2.num size).2)
theorem keepS_len (size : Nat) (less : Int) (s : Rdr) (i : Nat) : (zHo size less s i).1.length = i := by
  induction i with
  | zero => rfl
  | succ i ih => simp [zHo, ih]
def zHa (s : Rdr) (size : Nat) (less : Int) : List Int × Rdr := zHo size less (s.num 2).2 (min (s.num 2).1 241)
def prpS (s : Rdr) : Nat → List Prp × Rdr
  | 0 => ([], s)
  | i + 1 => ((prpS s i).1 ++ [⟨((prpS s i).2.text 24).1, (((prpS s i).2.text 24).2.text 64).1⟩], (((prpS s i).2.text 24).2.text 64).2)
theorem prpS_len (s : Rdr) (i : Nat) : (prpS s i).1.length = i := by
  induction i with
  | zero => rfl
  | succ i ih => simp [prpS, ih]
def zDo (k : Int) : Rec := ⟨k, [], 0, 0, 0, 0, [], [], 0, 0, 0, [], []⟩
def take1 (k : Int) (s : Rdr) : Rec × Rdr := ({ zDo k with name := (s.text 24).1, many := ((s.text 24).2.num 2).1 }, ((s.text 24).2.num 2).2)
def take3 (k : Int) (s : Rdr) : Rec × Rdr := ({ zDo k with keep := (zHa s 4 0).1 }, (zHa s 4 0).2)
def take4 (k : Int) (s : Rdr) : Rec × Rdr := ({ zDo k with object := (s.num 4).1, keep := (zHa (s.num 4).2 2 1).1 }, (zHa (s.num 4).2 2 1).2)
def take5 (k : Int) (s : Rdr) : Rec × Rdr :=
  let a := s.num 4
  let b := a.2.num 2
  let c := b.2.num 2
  let d := c.2.bytes c.1
  ({ zDo k with object := a.1, at_ := (b.1 : Int) - 1, data := d.1 }, d.2)
def take6 (k : Int) (s : Rdr) : Rec × Rdr := ({ zDo k with many := (s.num 4).1 }, (s.num 4).2)
def zKw (k : Int) (s : Rdr) : Rec × Rdr :=
  let n := s.text 240
  let a := n.2.num 1
  let b := a.2.num 6
  let c := b.2.num 6
  let d := c.2.num 1
  let t := d.2.text 24
  let m := t.2.num 1
  let p := prpS m.2 m.1
  ({ zDo k with name := n.1, typ := a.1, frm := b.1, guid := c.1, origin := d.1, snap := t.1, props := p.1 }, p.2)
def zHw (k : Int) (s : Rdr) : Rec × Rdr := if k = 1 then take1 k s else if k = 2 then zKw k s else if k = 3 then take3 k s else if k = 4 then take4 k s else if k = 5 then take5 k s else take6 k s
def RecO (tp ti tu : TypeId) (D : zAw) (r : Rec) (pv kv dv : Value) : Prop := ∃ D1 D2 D3, D = D1 ++ (D2 ++ D3) ∧
  Buf D1 tp 2 pv r.props.length (r.props.flatMap Prp.lay) ∧ Buf D2 ti 1 kv r.keep.length (ints r.keep) ∧ Buf D3 tu 1 dv r.data.length (byt r.data)
theorem RecO.rd {tp ti tu : TypeId} {D : zAw} {r : Rec} {pv kv dv : Value} (h : RecO tp ti tu D r pv kv dv) : RecR D r pv kv dv := by
  obtain ⟨D1, D2, D3, rfl, h1, h2, h3⟩ := h
  exact ⟨h1.rd.sub fun x hx => by simp [hx], h2.rd.sub fun x hx => by simp [hx], h3.rd.sub fun x hx => by simp [hx]⟩
abbrev nilv : Value := .slice none 0 0
end Go.Sl
namespace Go.Proofs.YtbogecljkaimdaaGreatDoor
open Go.Sl
set_option maxRecDepth 10000
abbrev zKo := RecO 70 3 5
theorem keep_ret (p : Nat) (s : Rdr) (A : zAw) (hA : RdC 108 p s A) (size : Nat) (less : Int) (h4 : size ≤ 4) (hl : 0 ≤ less ∧ less ≤ 1) (w0 : World) (H : Hp w0 [A]) :
    Ret Tryz.prog 60 #[ptr p, .int .i64 size, .int .i64 less] w0 fun u w' => ∃ A' C, RdC 108 p (zHa s size less).2 A' ∧ Buf C 3 1 u (zHa s size less).1.length (ints (zHa s size less).1) ∧ Trs w0 w' [A] [A', C] := by
  have S := St.begin H
  have hn2 : (s.num 2).1 < 65536 := zEq s 2
  refine zFy 25 Tryz.func60 rfl rfl (by decide) ?_; intro a E
  refine wp_seq_k ?_; intro K hK
  refine zAb ?_
  refine zp E (zAd E rfl rfl) ?_; clear E a; intro a E
  refine wpList_nil ?_
  refine zAf hK ?_; clear hK; clear K
  refine wp_seq_k ?_; intro K hK
  refine zAb ?_
  refine zp E (zAd E rfl rfl) ?_; clear E a; intro a E
  refine wpList_nil ?_
  refine zAf hK ?_; clear hK; clear K
  iterate 2 (refine wp_seq_k ?_; intro K hK)
  refine zAb ?_
  refine zp E (zAe E rfl rfl) ?_; clear E a; intro a E
  refine zAp E rfl rfl (by decide) rfl Tryz.func44 rfl (by kernel_rfl) rfl (zEf p s A _ hA (S.hp.sel (zAl (by repeat (first | exact pk1 | apply zAc)) (zAu _))) 2) ?_
  rintro v9 w ⟨A1, rfl, hA1, hT⟩; clear E a; intro a E
  replace S := S.call1 (zAl (by repeat (first | exact pk1 | apply zAc)) (zAu _)) hT; obtain ⟨n, hn⟩ : ∃ n, n = (s.num 2).1 := ⟨_, rfl⟩; rw [← hn] at E hn2
  refine zp E (by first | exact zBg E rfl rfl rfl rfl (by first | exact wu8 _ | exact zFe (by omega) | exact zDz (by omega) | exact w_in (by omega) | exact zBw (by omega) | exact rfl) | exact zCi E rfl rfl rfl rfl rfl (by assumption) (S.stab.at (by simp))) ?_; clear E a; intro a E
  refine zp E (rn_min E rfl rfl rfl) ?_; clear E a; intro a E
  obtain ⟨q, hq⟩ : ∃ q, q = min n 241 := ⟨_, rfl⟩; rw [show min (n : Int) 241 = ((q : Nat) : Int) by omega] at E
  refine zp E (zAe E rfl rfl) ?_; clear E a; intro a E
  refine wpList_nil ?_
  refine zAf hK ?_; clear hK; clear K
  refine wp_block ?_
  refine wp_loop_ghost (fun (m : Nat) (a : Act) (w' : World) => ∃ (i : Nat) (A' C : zAw) (v : Value), m = q - i ∧ i ≤ q ∧ RdC 108 p (zHo size less (s.num 2).2 i).2 A' ∧ Buf C 3 1 v i (ints (zHo size less (s.num 2).2 i).1) ∧ St w0 [A] w' [A', C] ∧ Fr a 25 [(0, ptr p), (1, .int .i64 size), (2, .int .i64 less), (7, v), (11, .int .i64 q), (12, .int .i64 i)]) (q) ?_ ?_
  · exact ⟨0, A1, [], _, by omega, by omega, hA1, Buf.nil _ _, S.addNil.perm2, E.keep (zAa rfl (zAa rfl (zAa rfl (zAa rfl (zAa rfl (zAa rfl zAm))))))⟩
  clear E; clear a; (try clear S); rintro m a w ⟨i, A', C, v, rfl, hi, hA', hB, S, E⟩
  refine wp_seq_k ?_; intro K hK
  refine zAb ?_
  refine zp E (zCk E rfl rfl rfl) ?_; clear E a; intro a E
  refine wpList_nil ?_
  refine zAf hK ?_; clear hK; clear K
  refine wp_seq_k ?_; intro K hK
  refine zBh E rfl (fun hb => ?_) (fun hb => ?_)
  · replace hb := Nrm.nrm hb
    refine wp_skip ?_
    refine zAf hK ?_; clear hK; clear K
    refine wp_seq_k ?_; intro K hK
    refine wp_block ?_
    have hlt : ((zHo size less (s.num 2).2 i).2.num size).1 < 4294967296 := Nat.lt_of_lt_of_le (zEq _ size) (Nat.pow_le_pow_right (n := 256) (by omega) h4)
    refine zAb ?_
    iterate 3 (refine zp E (zAe E rfl rfl) ?_; clear E a; intro a E)
    refine zAp E rfl rfl (by decide) rfl Tryz.func44 rfl (by kernel_rfl) rfl (zEf p _ A' _ hA' (S.hp.sel (zAl (by repeat (first | exact pk1 | apply zAc)) (zAu _))) size) ?_
    rintro v17 w ⟨A2, rfl, hA2, hT⟩; clear E a; intro a E
    replace S := S.call1 (zAl (by repeat (first | exact pk1 | apply zAc)) (zAu _)) hT; obtain ⟨x, hx⟩ : ∃ x, x = ((zHo size less (s.num 2).2 i).2.num size).1 := ⟨_, rfl⟩; rw [← hx] at E hlt
    refine zp E (by first | exact zBg E rfl rfl rfl rfl (by first | exact wu8 _ | exact zFe (by omega) | exact zDz (by omega) | exact w_in (by omega) | exact zBw (by omega) | exact rfl) | exact zCi E rfl rfl rfl rfl rfl (by assumption) (S.stab.at (by simp))) ?_; clear E a; intro a E
    refine zp E (zAe E rfl rfl) ?_; clear E a; intro a E
    refine zp E (zEe E rfl rfl rfl (w_in (by omega))) ?_; clear E a; intro a E
    refine zAo rfl (zDn (cells := [_]) E S rfl rfl (by decide) rfl rfl rfl rfl rfl (by decide) rfl ?_); clear E S a; intro a w b21 E S
    refine zAo rfl (zCn (by' := 8) E S rfl rfl (by decide) rfl rfl hB (by repeat (first | exact pk1 | apply zAc)) ((zFf (g := b21) (T := 3) (xs := [.int .i64 ((x : Int) - less)]) (s := 1) (m := 1) rfl (by simp [Value.oneCell']) (by omega) 1).src (S.stab.at (by repeat (first | exact mm1 | assumption | apply List.Mem.tail))) rfl) rfl rfl rfl rfl rfl rfl (by simp only [maxLen]; omega) (by omega) ?_); clear E S a; intro a w v22 C22 E S hB22
    refine zp E (zAd E rfl rfl) ?_; clear E a; intro a E
    refine wpList_nil ?_
    refine zBe ?_
    refine zAf hK ?_; clear hK; clear K
    refine zAb ?_
    refine zp E (zBt E rfl rfl rfl (by first | exact zCh (y := 1) (by omega) | exact w_in (by omega) | exact zBw (by omega) | exact rfl)) ?_; clear E a; intro a E
    refine zp E (zAe E rfl rfl) ?_; clear E a; intro a E
    refine wpList_nil ?_
    refine zBj ?_
    have hB2 : Buf C22 3 1 v22 (i + 1) (ints (zHo size less (s.num 2).2 (i + 1)).1) := by
      rw [zHo, ← hx]; simp only [ints, List.map_append]; exact hB22
    exact ⟨_, by omega, i + 1, A2, C22, v22, rfl, by omega, hA2, hB2, (St.drops2 [_] (S.front2 (A := A2) (B := C22) (by repeat (first | exact pk1 | apply zAc)) (by repeat (first | exact pk1 | apply zAc)))), E.keep (zAa rfl (zAa rfl (zAa rfl (zAa rfl (zAa rfl (zAa rfl zAm))))))⟩
  · replace hb := Nrm.nrm hb
    refine wp_exit ?_
    refine zBa ?_; clear hK; clear K
    refine zBa ?_
    refine zCg ?_
    refine zAf hK ?_; clear hK; clear K
    refine wp_seq_k ?_; intro K hK
    refine zAb ?_
    refine zp E (zAe E rfl rfl) ?_; clear E a; intro a E
    refine zp E (zAd E rfl rfl) ?_; clear E a; intro a E
    refine wpList_nil ?_
    refine zAf hK ?_; clear hK; clear K
    refine wp_ret ?_
    refine ret1 E rfl rfl ?_
    obtain rfl : i = q := by omega
    have hk : zHa s size less = zHo size less (s.num 2).2 i := by rw [zHa, ← hn, ← hq]
    rw [hk, keepS_len]
    exact ⟨_, rfl, A', C, hA', hB, S.tr⟩
end Go.Proofs.YtbogecljkaimdaaGreatDoor
namespace Go.Proofs.YtbogecljkaimdaaGreatDoor
open Go.Sl
set_option maxRecDepth 10000
section
variable (p b : Nat) (k : Int) (s : Rdr) (A : zAw) (hA : RdC 108 p s A) (w0 : World) (H : Hp w0 [A, [(b, cel ((zDo k).cells nilv nilv nilv) 26)]])
include hA H
theorem take1_ret : Ret Tryz.prog 52 #[ptr p, ptr b] w0 fun _ w' => ∃ A' D pv kv dv, RdC 108 p (take1 k s).2 A' ∧ zKo D (take1 k s).1 pv kv dv ∧ Trs w0 w' [A, [(b, cel ((zDo k).cells nilv nilv nilv) 26)]] [A', [(b, cel ((take1 k s).1.cells pv kv dv) 26)], D] := by
  have S := St.begin H
  have hn : ((s.text 24).2.num 2).1 < 65536 := zEq _ 2
  refine zCl 15 Tryz.func52 rfl rfl (by decide) ?_; intro a E
  refine zAb ?_
  iterate 3 (refine zp E (zAe E rfl rfl) ?_; clear E a; intro a E)
  refine zAp E rfl rfl (by decide) rfl Tryz.func53 rfl (by kernel_rfl) rfl (zGv p s A _ hA (S.hp.sel (zAl (by repeat (first | exact pk1 | apply zAc)) (zAu _))) 24) ?_
  rintro v7 w ⟨A1, rfl, hA1, hT⟩; clear E a; intro a E
  have S := S.call1 (zAl (by repeat (first | exact pk1 | apply zAc)) (zAu _)) hT
  refine zp E (zAe E rfl rfl) ?_; clear E a; intro a E
  refine zAp E rfl rfl (by decide) rfl Tryz.func44 rfl (by kernel_rfl) rfl (zEf p _ A1 _ hA1 (S.hp.sel (zAl (by repeat (first | exact pk1 | apply zAc)) (zAu _))) 2) ?_
  rintro v9 w ⟨A2, rfl, hA2, hT⟩; clear E a; intro a E
  have S := S.call1 (zAl (by repeat (first | exact pk1 | apply zAc)) (zAu _)) hT
  refine zp E (by first | exact zBg E rfl rfl rfl rfl (by first | exact wu8 _ | exact zFe (by omega) | exact zDz (by omega) | exact w_in (by omega) | exact zBw (by omega) | exact rfl) | exact zCi E rfl rfl rfl rfl rfl (by assumption) (S.stab.at (by simp))) ?_; clear E a; intro a E
  refine zp E (zBm E rfl rfl) ?_; clear E a; intro a E
  refine zp E (by first | exact zAg (q := 1) E rfl rfl rfl | exact zAh (q := 1) E rfl rfl rfl) ?_; clear E a; intro a E
  refine zAo rfl (zBp E S rfl rfl rfl rfl rfl rfl (by repeat (first | exact pk1 | apply zAc)) (by first | exact Nat.le_of_ble_eq_true rfl | (simp; done) | (simp; omega)) ?_); clear E S a; intro a w E S; try dsimp only [List.set] at S
  refine zp E (zBm E rfl rfl) ?_; clear E a; intro a E
  refine zp E (by first | exact zAg (q := 10) E rfl rfl rfl | exact zAh (q := 10) E rfl rfl rfl) ?_; clear E a; intro a E
  refine zAo rfl (zBp E S rfl rfl rfl rfl rfl rfl (by repeat (first | exact pk1 | apply zAc)) (by first | exact Nat.le_of_ble_eq_true rfl | (simp; done) | (simp; omega)) ?_); clear E S a; intro a w E S; try dsimp only [List.set] at S
  refine wpList_nil ?_
  refine end0 E rfl ?_
  exact ⟨_, rfl, A2, [], nilv, nilv, nilv, hA2, ⟨[], [], [], rfl, Buf.nil _ _, Buf.nil _ _, Buf.nil _ _⟩, (S.addNil.perm (Bs := [A2, _, []]) (zAl (by repeat (first | exact pk1 | apply zAc)) (zAl (by repeat (first | exact pk1 | apply zAc)) (zAl (by repeat (first | exact pk1 | apply zAc)) (zAu _))))).tr⟩
theorem take3_ret : Ret Tryz.prog 59 #[ptr p, ptr b] w0 fun _ w' => ∃ A' D pv kv dv, RdC 108 p (take3 k s).2 A' ∧ zKo D (take3 k s).1 pv kv dv ∧ Trs w0 w' [A, [(b, cel ((zDo k).cells nilv nilv nilv) 26)]] [A', [(b, cel ((take3 k s).1.cells pv kv dv) 26)], D] := by
  have S := St.begin H
  refine zCl 9 Tryz.func59 rfl rfl (by decide) ?_; intro a E
  refine zAb ?_
  iterate 2 (refine zp E (zAe E rfl rfl) ?_; clear E a; intro a E)
  refine zAp E rfl rfl (by decide) rfl Tryz.func60 rfl (by kernel_rfl) rfl (keep_ret p s A hA 4 0 (by omega) (by omega) _ (S.hp.sel (zAl (by repeat (first | exact pk1 | apply zAc)) (zAu _)))) ?_
  rintro v6 w ⟨A1, C, hA1, hC, hT⟩; clear E a; intro a E
  have S := S.call2 (zAl (by repeat (first | exact pk1 | apply zAc)) (zAu _)) hT; obtain ⟨ad, c, rfl⟩ := hC.slice
  refine zp E (zBm E rfl rfl) ?_; clear E a; intro a E
  refine zp E (by first | exact zAg (q := 11) E rfl rfl rfl | exact zAh (q := 11) E rfl rfl rfl) ?_; clear E a; intro a E
  refine zAo rfl (zBp E S rfl rfl rfl rfl rfl rfl (by repeat (first | exact pk1 | apply zAc)) (by first | exact Nat.le_of_ble_eq_true rfl | (simp; done) | (simp; omega)) ?_); clear E S a; intro a w E S; try dsimp only [List.set] at S
  refine wpList_nil ?_
  refine end0 E rfl ?_
  exact ⟨_, rfl, A1, C, nilv, _, nilv, hA1, ⟨[], C, [], by simp, Buf.nil _ _, hC, Buf.nil _ _⟩, (S.perm (Bs := [A1, _, C]) (zAl (by repeat (first | exact pk1 | apply zAc)) (zAl (by repeat (first | exact pk1 | apply zAc)) (zAl (by repeat (first | exact pk1 | apply zAc)) (zAu _))))).tr⟩
theorem take4_ret : Ret Tryz.prog 63 #[ptr p, ptr b] w0 fun _ w' => ∃ A' D pv kv dv, RdC 108 p (take4 k s).2 A' ∧ zKo D (take4 k s).1 pv kv dv ∧ Trs w0 w' [A, [(b, cel ((zDo k).cells nilv nilv nilv) 26)]] [A', [(b, cel ((take4 k s).1.cells pv kv dv) 26)], D] := by
  have S := St.begin H
  have hn : (s.num 4).1 < 4294967296 := zEq _ 4
  refine zCl 15 Tryz.func63 rfl rfl (by decide) ?_; intro a E
  refine zAb ?_
  iterate 3 (refine zp E (zAe E rfl rfl) ?_; clear E a; intro a E)
  refine zAp E rfl rfl (by decide) rfl Tryz.func44 rfl (by kernel_rfl) rfl (zEf p s A _ hA (S.hp.sel (zAl (by repeat (first | exact pk1 | apply zAc)) (zAu _))) 4) ?_
  rintro v7 w ⟨A1, rfl, hA1, hT⟩; clear E a; intro a E
  have S := S.call1 (zAl (by repeat (first | exact pk1 | apply zAc)) (zAu _)) hT
  refine zp E (by first | exact zBg E rfl rfl rfl rfl (by first | exact wu8 _ | exact zFe (by omega) | exact zDz (by omega) | exact w_in (by omega) | exact zBw (by omega) | exact rfl) | exact zCi E rfl rfl rfl rfl rfl (by assumption) (S.stab.at (by simp))) ?_; clear E a; intro a E
  refine zp E (zAe E rfl rfl) ?_; clear E a; intro a E
  refine zAp E rfl rfl (by decide) rfl Tryz.func60 rfl (by kernel_rfl) rfl (keep_ret p _ A1 hA1 2 1 (by omega) (by omega) _ (S.hp.sel (zAl (by repeat (first | exact pk1 | apply zAc)) (zAu _)))) ?_
  rintro v10 w ⟨A2, C, hA2, hC, hT⟩; clear E a; intro a E
  have S := S.call2 (zAl (by repeat (first | exact pk1 | apply zAc)) (zAu _)) hT; obtain ⟨ad, c, rfl⟩ := hC.slice
  refine zp E (zBm E rfl rfl) ?_; clear E a; intro a E
  refine zp E (by first | exact zAg (q := 8) E rfl rfl rfl | exact zAh (q := 8) E rfl rfl rfl) ?_; clear E a; intro a E
  refine zAo rfl (zBp E S rfl rfl rfl rfl rfl rfl (by repeat (first | exact pk1 | apply zAc)) (by first | exact Nat.le_of_ble_eq_true rfl | (simp; done) | (simp; omega)) ?_); clear E S a; intro a w E S; try dsimp only [List.set] at S
  refine zp E (zBm E rfl rfl) ?_; clear E a; intro a E
  refine zp E (by first | exact zAg (q := 11) E rfl rfl rfl | exact zAh (q := 11) E rfl rfl rfl) ?_; clear E a; intro a E
  refine zAo rfl (zBp E S rfl rfl rfl rfl rfl rfl (by repeat (first | exact pk1 | apply zAc)) (by first | exact Nat.le_of_ble_eq_true rfl | (simp; done) | (simp; omega)) ?_); clear E S a; intro a w E S; try dsimp only [List.set] at S
  refine wpList_nil ?_
  refine end0 E rfl ?_
  exact ⟨_, rfl, A2, C, nilv, _, nilv, hA2, ⟨[], C, [], by simp, Buf.nil _ _, hC, Buf.nil _ _⟩, (S.perm (Bs := [A2, _, C]) (zAl (by repeat (first | exact pk1 | apply zAc)) (zAl (by repeat (first | exact pk1 | apply zAc)) (zAl (by repeat (first | exact pk1 | apply zAc)) (zAu _))))).tr⟩
theorem take5_ret : Ret Tryz.prog 67 #[ptr p, ptr b] w0 fun _ w' => ∃ A' D pv kv dv, RdC 108 p (take5 k s).2 A' ∧ zKo D (take5 k s).1 pv kv dv ∧ Trs w0 w' [A, [(b, cel ((zDo k).cells nilv nilv nilv) 26)]] [A', [(b, cel ((take5 k s).1.cells pv kv dv) 26)], D] := by
  have S := St.begin H
  have hn : (s.num 4).1 < 4294967296 := zEq _ 4
  have hn2 : ((s.num 4).2.num 2).1 < 65536 := zEq _ 2
  have hn3 : (((s.num 4).2.num 2).2.num 2).1 < 65536 := zEq _ 2
  refine zCl 25 Tryz.func67 rfl rfl (by decide) ?_; intro a E
  refine wp_seq_k ?_; intro K hK
  refine zAb ?_
  iterate 3 (refine zp E (zAe E rfl rfl) ?_; clear E a; intro a E)
  refine zAp E rfl rfl (by decide) rfl Tryz.func44 rfl (by kernel_rfl) rfl (zEf p s A _ hA (S.hp.sel (zAl (by repeat (first | exact pk1 | apply zAc)) (zAu _))) 4) ?_
  rintro v7 w ⟨A1, rfl, hA1, hT⟩; clear E a; intro a E
  have S := S.call1 (zAl (by repeat (first | exact pk1 | apply zAc)) (zAu _)) hT
  refine zp E (by first | exact zBg E rfl rfl rfl rfl (by first | exact wu8 _ | exact zFe (by omega) | exact zDz (by omega) | exact w_in (by omega) | exact zBw (by omega) | exact rfl) | exact zCi E rfl rfl rfl rfl rfl (by assumption) (S.stab.at (by simp))) ?_; clear E a; intro a E
  refine zp E (zAe E rfl rfl) ?_; clear E a; intro a E
  refine zAp E rfl rfl (by decide) rfl Tryz.func44 rfl (by kernel_rfl) rfl (zEf p _ A1 _ hA1 (S.hp.sel (zAl (by repeat (first | exact pk1 | apply zAc)) (zAu _))) 2) ?_
  rintro v10 w ⟨A2, rfl, hA2, hT⟩; clear E a; intro a E
  have S := S.call1 (zAl (by repeat (first | exact pk1 | apply zAc)) (zAu _)) hT
  refine zp E (by first | exact zBg E rfl rfl rfl rfl (by first | exact wu8 _ | exact zFe (by omega) | exact zDz (by omega) | exact w_in (by omega) | exact zBw (by omega) | exact rfl) | exact zCi E rfl rfl rfl rfl rfl (by assumption) (S.stab.at (by simp))) ?_; clear E a; intro a E
  refine zp E (zEe E rfl rfl rfl (w_in (by omega))) ?_; clear E a; intro a E
  refine zp E (zBm E rfl rfl) ?_; clear E a; intro a E
  refine zp E (by first | exact zAg (q := 8) E rfl rfl rfl | exact zAh (q := 8) E rfl rfl rfl) ?_; clear E a; intro a E
  refine zAo rfl (zBp E S rfl rfl rfl rfl rfl rfl (by repeat (first | exact pk1 | apply zAc)) (by first | exact Nat.le_of_ble_eq_true rfl | (simp; done) | (simp; omega)) ?_); clear E S a; intro a w E S; try dsimp only [List.set] at S
  refine zp E (zBm E rfl rfl) ?_; clear E a; intro a E
  refine zp E (by first | exact zAg (q := 9) E rfl rfl rfl | exact zAh (q := 9) E rfl rfl rfl) ?_; clear E a; intro a E
  refine zAo rfl (zBp E S rfl rfl rfl rfl rfl rfl (by repeat (first | exact pk1 | apply zAc)) (by first | exact Nat.le_of_ble_eq_true rfl | (simp; done) | (simp; omega)) ?_); clear E S a; intro a w E S; try dsimp only [List.set] at S
  refine wpList_nil ?_
  refine zAf hK ?_; clear hK; clear K
  refine zAb ?_
  iterate 3 (refine zp E (zAe E rfl rfl) ?_; clear E a; intro a E)
  refine zAp E rfl rfl (by decide) rfl Tryz.func44 rfl (by kernel_rfl) rfl (zEf p _ A2 _ hA2 (S.hp.sel (zAl (by repeat (first | exact pk1 | apply zAc)) (zAu _))) 2) ?_
  rintro v20 w ⟨A3, rfl, hA3, hT⟩; clear E a; intro a E
  have S := S.call1 (zAl (by repeat (first | exact pk1 | apply zAc)) (zAu _)) hT
  refine zp E (by first | exact zBg E rfl rfl rfl rfl (by first | exact wu8 _ | exact zFe (by omega) | exact zDz (by omega) | exact w_in (by omega) | exact zBw (by omega) | exact rfl) | exact zCi E rfl rfl rfl rfl rfl (by assumption) (S.stab.at (by simp))) ?_; clear E a; intro a E
  refine zAp E rfl rfl (by decide) rfl Tryz.func68 rfl (by kernel_rfl) rfl (rbytes_ret p _ A3 _ hA3 (S.hp.sel (zAl (by repeat (first | exact pk1 | apply zAc)) (zAu _))) (((s.num 4).2.num 2).2.num 2).1 (by omega)) ?_
  rintro v22 w ⟨A4, C, hA4, hT, hC⟩; clear E a; intro a E
  have S := S.call2 (zAl (by repeat (first | exact pk1 | apply zAc)) (zAu _)) hT; obtain ⟨ad, c, rfl⟩ := hC.slice
  refine zp E (zBm E rfl rfl) ?_; clear E a; intro a E
  refine zp E (by first | exact zAg (q := 12) E rfl rfl rfl | exact zAh (q := 12) E rfl rfl rfl) ?_; clear E a; intro a E
  refine zAo rfl (zBp E S rfl rfl rfl rfl rfl rfl (by repeat (first | exact pk1 | apply zAc)) (by first | exact Nat.le_of_ble_eq_true rfl | (simp; done) | (simp; omega)) ?_); clear E S a; intro a w E S; try dsimp only [List.set] at S
  refine wpList_nil ?_
  refine end0 E rfl ?_
  exact ⟨_, rfl, A4, C, nilv, nilv, _, hA4, ⟨[], [], C, by simp, Buf.nil _ _, Buf.nil _ _, hC⟩, (S.perm (Bs := [A4, _, C]) (zAl (by repeat (first | exact pk1 | apply zAc)) (zAl (by repeat (first | exact pk1 | apply zAc)) (zAl (by repeat (first | exact pk1 | apply zAc)) (zAu _))))).tr⟩
theorem take6_ret : Ret Tryz.prog 101 #[ptr p, ptr b] w0 fun _ w' => ∃ A' D pv kv dv, RdC 108 p (take6 k s).2 A' ∧ zKo D (take6 k s).1 pv kv dv ∧ Trs w0 w' [A, [(b, cel ((zDo k).cells nilv nilv nilv) 26)]] [A', [(b, cel ((take6 k s).1.cells pv kv dv) 26)], D] := by
  have S := St.begin H
  have hn : (s.num 4).1 < 4294967296 := zEq _ 4
  refine zCl 10 Tryz.func101 rfl rfl (by decide) ?_; intro a E
  refine zAb ?_
  iterate 2 (refine zp E (zAe E rfl rfl) ?_; clear E a; intro a E)
  refine zAp E rfl rfl (by decide) rfl Tryz.func44 rfl (by kernel_rfl) rfl (zEf p s A _ hA (S.hp.sel (zAl (by repeat (first | exact pk1 | apply zAc)) (zAu _))) 4) ?_
  rintro v6 w ⟨A1, rfl, hA1, hT⟩; clear E a; intro a E
  have S := S.call1 (zAl (by repeat (first | exact pk1 | apply zAc)) (zAu _)) hT
  refine zp E (by first | exact zBg E rfl rfl rfl rfl (by first | exact wu8 _ | exact zFe (by omega) | exact zDz (by omega) | exact w_in (by omega) | exact zBw (by omega) | exact rfl) | exact zCi E rfl rfl rfl rfl rfl (by assumption) (S.stab.at (by simp))) ?_; clear E a; intro a E
  refine zp E (zBm E rfl rfl) ?_; clear E a; intro a E
  refine zp E (by first | exact zAg (q := 10) E rfl rfl rfl | exact zAh (q := 10) E rfl rfl rfl) ?_; clear E a; intro a E
  refine zAo rfl (zBp E S rfl rfl rfl rfl rfl rfl (by repeat (first | exact pk1 | apply zAc)) (by first | exact Nat.le_of_ble_eq_true rfl | (simp; done) | (simp; omega)) ?_); clear E S a; intro a w E S; try dsimp only [List.set] at S
  refine wpList_nil ?_
  refine end0 E rfl ?_
  exact ⟨_, rfl, A1, [], nilv, nilv, nilv, hA1, ⟨[], [], [], rfl, Buf.nil _ _, Buf.nil _ _, Buf.nil _ _⟩, (S.addNil.perm (Bs := [A1, _, []]) (zAl (by repeat (first | exact pk1 | apply zAc)) (zAl (by repeat (first | exact pk1 | apply zAc)) (zAl (by repeat (first | exact pk1 | apply zAc)) (zAu _))))).tr⟩
end
end Go.Proofs.YtbogecljkaimdaaGreatDoor
namespace Go.Proofs.YtbogecljkaimdaaGreatDoor
open Go.Sl
set_option maxRecDepth 10000
section
variable (p b : Nat) (k : Int) (s : Rdr) (A : zAw) (hA : RdC 108 p s A) (w0 : World) (H : Hp w0 [A, [(b, cel ((zDo k).cells nilv nilv nilv) 26)]])
include hA H
theorem take2_ret : Ret Tryz.prog 95 #[ptr p, ptr b] w0 fun _ w' => ∃ A' D pv kv dv, RdC 108 p (zKw k s).2 A' ∧ zKo D (zKw k s).1 pv kv dv ∧ Trs w0 w' [A, [(b, cel ((zDo k).cells nilv nilv nilv) 26)]] [A', [(b, cel ((zKw k s).1.cells pv kv dv) 26)], D] := by
  have S := St.begin H
  obtain ⟨x0, h0⟩ : ∃ x, x = s.text 240 := ⟨_, rfl⟩
  obtain ⟨x1, h1⟩ : ∃ x, x = x0.2.num 1 := ⟨_, rfl⟩
  obtain ⟨x2, h2⟩ : ∃ x, x = x1.2.num 6 := ⟨_, rfl⟩
  obtain ⟨x3, h3⟩ : ∃ x, x = x2.2.num 6 := ⟨_, rfl⟩
  obtain ⟨x4, h4⟩ : ∃ x, x = x3.2.num 1 := ⟨_, rfl⟩
  obtain ⟨x5, h5⟩ : ∃ x, x = x4.2.text 24 := ⟨_, rfl⟩
  obtain ⟨x6, h6⟩ : ∃ x, x = x5.2.num 1 := ⟨_, rfl⟩
  have n1 : x1.1 < 256 := by rw [h1]; exact zEq _ 1
  have n2 : x2.1 < 281474976710656 := by rw [h2]; exact zEq _ 6
  have n3 : x3.1 < 281474976710656 := by rw [h3]; exact zEq _ 6
  have n4 : x4.1 < 256 := by rw [h4]; exact zEq _ 1
  have n6 : x6.1 < 256 := by rw [h6]; exact zEq _ 1
  obtain ⟨r1, hr1⟩ : ∃ r1 : Rec, r1 = { zDo k with name := x0.1, typ := x1.1, frm := x2.1, guid := x3.1, origin := x4.1, snap := x5.1 } := ⟨_, rfl⟩
  have htk : zKw k s = ({ r1 with props := (prpS x6.2 x6.1).1 }, (prpS x6.2 x6.1).2) := by rw [hr1, h6, h5, h4, h3, h2, h1, h0]; rfl
  have hcl : ∀ v, r1.cells v nilv nilv = [.int .i64 k, str x0.1, .int .i64 x1.1, .int .i64 x2.1, .int .i64 x3.1, .int .i64 x4.1, str x5.1, v, .int .i64 0, .int .i64 0, .int .i64 0, nilv, nilv] := fun v => by rw [hr1]; rfl
  refine zCl 57 Tryz.func95 rfl rfl (by decide) ?_; intro a E
  refine wp_seq_k ?_; intro K hK
  refine zAb ?_
  iterate 2 (refine zp E (zAe E rfl rfl) ?_; clear E a; intro a E)
  refine zAp E rfl rfl (by decide) rfl Tryz.func53 rfl (by kernel_rfl) rfl (zGv p s A _ hA (S.hp.sel (zAl (by repeat (first | exact pk1 | apply zAc)) (zAu _))) 240) ?_
  rintro v6 w ⟨A1, rfl, hA1, hT⟩; clear E a; intro a E
  replace S := S.call1 (zAl (by repeat (first | exact pk1 | apply zAc)) (zAu _)) hT; rw [← h0] at E hA1
  refine zp E (zBm E rfl rfl) ?_; clear E a; intro a E
  refine zp E (by first | exact zAg (q := 1) E rfl rfl rfl | exact zAh (q := 1) E rfl rfl rfl) ?_; clear E a; intro a E
  refine zAo rfl (zBp E S rfl rfl rfl rfl rfl rfl (by repeat (first | exact pk1 | apply zAc)) (by first | exact Nat.le_of_ble_eq_true rfl | (simp; done) | (simp; omega)) ?_); clear E S a; intro a w E S; try dsimp only [List.set] at S
  refine wpList_nil ?_
  refine zAf hK ?_; clear hK; clear K
  refine wp_seq_k ?_; intro K hK
  refine zAb ?_
  iterate 5 (refine zp E (zAe E rfl rfl) ?_; clear E a; intro a E)
  refine zAp E rfl rfl (by decide) rfl Tryz.func44 rfl (by kernel_rfl) rfl (zEf p _ A1 _ hA1 (S.hp.sel (zAl (by repeat (first | exact pk1 | apply zAc)) (zAu _))) 1) ?_
  rintro v14 w ⟨A2, rfl, hA2, hT⟩; clear E a; intro a E
  replace S := S.call1 (zAl (by repeat (first | exact pk1 | apply zAc)) (zAu _)) hT; rw [← h1] at E hA2
  refine zp E (by first | exact zBg E rfl rfl rfl rfl (by first | exact wu8 _ | exact zFe (by omega) | exact zDz (by omega) | exact w_in (by omega) | exact zBw (by omega) | exact rfl) | exact zCi E rfl rfl rfl rfl rfl (by assumption) (S.stab.at (by simp))) ?_; clear E a; intro a E
  refine zp E (zAe E rfl rfl) ?_; clear E a; intro a E
  refine zAp E rfl rfl (by decide) rfl Tryz.func44 rfl (by kernel_rfl) rfl (zEf p _ A2 _ hA2 (S.hp.sel (zAl (by repeat (first | exact pk1 | apply zAc)) (zAu _))) 6) ?_
  rintro v17 w ⟨A3, rfl, hA3, hT⟩; clear E a; intro a E
  replace S := S.call1 (zAl (by repeat (first | exact pk1 | apply zAc)) (zAu _)) hT; rw [← h2] at E hA3
  refine zp E (by first | exact zBg E rfl rfl rfl rfl (by first | exact wu8 _ | exact zFe (by omega) | exact zDz (by omega) | exact w_in (by omega) | exact zBw (by omega) | exact rfl) | exact zCi E rfl rfl rfl rfl rfl (by assumption) (S.stab.at (by simp))) ?_; clear E a; intro a E
  refine zp E (zAe E rfl rfl) ?_; clear E a; intro a E
  refine zAp E rfl rfl (by decide) rfl Tryz.func44 rfl (by kernel_rfl) rfl (zEf p _ A3 _ hA3 (S.hp.sel (zAl (by repeat (first | exact pk1 | apply zAc)) (zAu _))) 6) ?_
  rintro v20 w ⟨A4, rfl, hA4, hT⟩; clear E a; intro a E
  replace S := S.call1 (zAl (by repeat (first | exact pk1 | apply zAc)) (zAu _)) hT; rw [← h3] at E hA4
  refine zp E (by first | exact zBg E rfl rfl rfl rfl (by first | exact wu8 _ | exact zFe (by omega) | exact zDz (by omega) | exact w_in (by omega) | exact zBw (by omega) | exact rfl) | exact zCi E rfl rfl rfl rfl rfl (by assumption) (S.stab.at (by simp))) ?_; clear E a; intro a E
  refine zp E (zAe E rfl rfl) ?_; clear E a; intro a E
  refine zAp E rfl rfl (by decide) rfl Tryz.func44 rfl (by kernel_rfl) rfl (zEf p _ A4 _ hA4 (S.hp.sel (zAl (by repeat (first | exact pk1 | apply zAc)) (zAu _))) 1) ?_
  rintro v23 w ⟨A5, rfl, hA5, hT⟩; clear E a; intro a E
  replace S := S.call1 (zAl (by repeat (first | exact pk1 | apply zAc)) (zAu _)) hT; rw [← h4] at E hA5
  refine zp E (by first | exact zBg E rfl rfl rfl rfl (by first | exact wu8 _ | exact zFe (by omega) | exact zDz (by omega) | exact w_in (by omega) | exact zBw (by omega) | exact rfl) | exact zCi E rfl rfl rfl rfl rfl (by assumption) (S.stab.at (by simp))) ?_; clear E a; intro a E
  refine zp E (zBm E rfl rfl) ?_; clear E a; intro a E
  refine zp E (by first | exact zAg (q := 2) E rfl rfl rfl | exact zAh (q := 2) E rfl rfl rfl) ?_; clear E a; intro a E
  refine zAo rfl (zBp E S rfl rfl rfl rfl rfl rfl (by repeat (first | exact pk1 | apply zAc)) (by first | exact Nat.le_of_ble_eq_true rfl | (simp; done) | (simp; omega)) ?_); clear E S a; intro a w E S; try dsimp only [List.set] at S
  refine zp E (zBm E rfl rfl) ?_; clear E a; intro a E
  refine zp E (by first | exact zAg (q := 3) E rfl rfl rfl | exact zAh (q := 3) E rfl rfl rfl) ?_; clear E a; intro a E
  refine zAo rfl (zBp E S rfl rfl rfl rfl rfl rfl (by repeat (first | exact pk1 | apply zAc)) (by first | exact Nat.le_of_ble_eq_true rfl | (simp; done) | (simp; omega)) ?_); clear E S a; intro a w E S; try dsimp only [List.set] at S
  refine zp E (zBm E rfl rfl) ?_; clear E a; intro a E
  refine zp E (by first | exact zAg (q := 4) E rfl rfl rfl | exact zAh (q := 4) E rfl rfl rfl) ?_; clear E a; intro a E
  refine zAo rfl (zBp E S rfl rfl rfl rfl rfl rfl (by repeat (first | exact pk1 | apply zAc)) (by first | exact Nat.le_of_ble_eq_true rfl | (simp; done) | (simp; omega)) ?_); clear E S a; intro a w E S; try dsimp only [List.set] at S
  refine zp E (zBm E rfl rfl) ?_; clear E a; intro a E
  refine zp E (by first | exact zAg (q := 5) E rfl rfl rfl | exact zAh (q := 5) E rfl rfl rfl) ?_; clear E a; intro a E
  refine zAo rfl (zBp E S rfl rfl rfl rfl rfl rfl (by repeat (first | exact pk1 | apply zAc)) (by first | exact Nat.le_of_ble_eq_true rfl | (simp; done) | (simp; omega)) ?_); clear E S a; intro a w E S; try dsimp only [List.set] at S
  refine wpList_nil ?_
  refine zAf hK ?_; clear hK; clear K
  refine wp_seq_k ?_; intro K hK
  replace E := E.keep (e' := [(0, _), (1, _)]) (zAa rfl (zAa rfl (zAm)))
  refine zAb ?_
  iterate 2 (refine zp E (zAe E rfl rfl) ?_; clear E a; intro a E)
  refine zAp E rfl rfl (by decide) rfl Tryz.func53 rfl (by kernel_rfl) rfl (zGv p _ A5 _ hA5 (S.hp.sel (zAl (by repeat (first | exact pk1 | apply zAc)) (zAu _))) 24) ?_
  rintro v35 w ⟨A6, rfl, hA6, hT⟩; clear E a; intro a E
  replace S := S.call1 (zAl (by repeat (first | exact pk1 | apply zAc)) (zAu _)) hT; rw [← h5] at E hA6
  refine zp E (zBm E rfl rfl) ?_; clear E a; intro a E
  refine zp E (by first | exact zAg (q := 6) E rfl rfl rfl | exact zAh (q := 6) E rfl rfl rfl) ?_; clear E a; intro a E
  refine zAo rfl (zBp E S rfl rfl rfl rfl rfl rfl (by repeat (first | exact pk1 | apply zAc)) (by first | exact Nat.le_of_ble_eq_true rfl | (simp; done) | (simp; omega)) ?_); clear E S a; intro a w E S; try dsimp only [List.set] at S
  refine wpList_nil ?_
  refine zAf hK ?_; clear hK; clear K
  refine wp_seq_k ?_; intro K hK
  refine zAb ?_
  refine zp E (zAe E rfl rfl) ?_; clear E a; intro a E
  refine zAp E rfl rfl (by decide) rfl Tryz.func44 rfl (by kernel_rfl) rfl (zEf p _ A6 _ hA6 (S.hp.sel (zAl (by repeat (first | exact pk1 | apply zAc)) (zAu _))) 1) ?_
  rintro v39 w ⟨A7, rfl, hA7, hT⟩; clear E a; intro a E
  replace S := S.call1 (zAl (by repeat (first | exact pk1 | apply zAc)) (zAu _)) hT; rw [← h6] at E hA7
  refine zp E (zAe E rfl rfl) ?_; clear E a; intro a E
  refine wpList_nil ?_
  refine zAf hK ?_; clear hK; clear K
  refine wp_block ?_
  refine wp_loop_ghost (fun (m : Nat) (a : Act) (w' : World) => ∃ (i : Nat) (A' D1 : zAw) (v : Value), m = x6.1 - i ∧ i ≤ x6.1 ∧ RdC 108 p (prpS x6.2 i).2 A' ∧ Buf D1 70 2 v i ((prpS x6.2 i).1.flatMap Prp.lay) ∧ St w0 [A, [(b, cel ((zDo k).cells nilv nilv nilv) 26)]] w' [A', [(b, cel [.int .i64 k, str x0.1, .int .i64 x1.1, .int .i64 x2.1, .int .i64 x3.1, .int .i64 x4.1, str x5.1, v, .int .i64 0, .int .i64 0, .int .i64 0, nilv, nilv] 26)], D1] ∧ Fr a 57 [(0, ptr p), (1, ptr b), (39, .int .u64 x6.1), (40, .int .u64 i)]) (x6.1) ?_ ?_
  · exact ⟨0, A7, [], nilv, by omega, by omega, hA7, Buf.nil _ _, S.addNil.perm (Bs := [A7, _, []]) (zAl (by repeat (first | exact pk1 | apply zAc)) (zAl (by repeat (first | exact pk1 | apply zAc)) (zAl (by repeat (first | exact pk1 | apply zAc)) (zAu _)))), E.keep (zAa rfl (zAa rfl (zAa rfl (zAa rfl zAm))))⟩
  clear E; clear a; (try clear S); rintro m a w ⟨i, A', D1, v, rfl, hi, hA', hB, S, E⟩
  refine wp_seq_k ?_; intro K hK
  refine zAb ?_
  refine zp E (zCk E rfl rfl rfl) ?_; clear E a; intro a E
  refine wpList_nil ?_
  refine zAf hK ?_; clear hK; clear K
  refine wp_seq_k ?_; intro K hK
  refine zBh E rfl (fun hb => ?_) (fun hb => ?_)
  · replace hb := Nrm.nrm hb
    refine wp_skip ?_
    refine zAf hK ?_; clear hK; clear K
    refine wp_seq_k ?_; intro K hK
    refine wp_block ?_
    obtain ⟨adv, cv, rfl⟩ := hB.slice
    refine zDp S (.ofL [(0, 0), (1, 0), (2, 0), (3, 0), (4, 0), (5, 0), (7, 0), (6, 1), (8, 1), (9, 0), (10, 1), (11, 1), (12, 0), (13, 0), (14, 3)]) [[(b, cel [.int .i64 k, str x0.1, .int .i64 x1.1, .int .i64 x2.1, .int .i64 x3.1, .int .i64 x4.1, str x5.1, .slice adv i cv, .int .i64 0, .int .i64 0, .int .i64 0, nilv, nilv] 26)]] (fun h => h.sub (by first | (simp; done) | (simp +contextual; done) | (simp [*]; done))) (by kernel_rfl) (by kernel_rfl) ?_
    clear S; intro w S
    iterate 2 (refine zm E rfl (fun w h => zAe E rfl rfl) ?_; clear E a; intro a E)
    refine zm E rfl (fun w h => zBm E rfl rfl) ?_; clear E a; intro a E
    refine zm E rfl (fun w h => by first | exact zAg (q := 7) E rfl rfl rfl | exact zAh (q := 7) E rfl rfl rfl) ?_; clear E a; intro a E
    refine zm E rfl (fun w h => by first | exact zAn E rfl rfl rfl (h.one (by repeat (first | exact mm1 | assumption | apply List.Mem.tail))) rfl | exact zAj E rfl rfl rfl (by assumption)) ?_; clear E a; intro a E
    iterate 2 (refine zm E rfl (fun w h => zAe E rfl rfl) ?_; clear E a; intro a E)
    refine zCd E rfl rfl rfl (by decide) rfl Tryz.func53 rfl (by kernel_rfl) rfl (zGv p _ A' _ hA' (S.hp.sel (zAl (by repeat (first | exact pk1 | apply zAc)) (zAu _))) 24) ?_
    rintro v48 w ⟨B1, rfl, hB1, hT⟩; clear E a; intro a E
    replace S := S.call1 (zAl (by repeat (first | exact pk1 | apply zAc)) (zAu _)) hT; obtain ⟨y, hy⟩ : ∃ y, y = (prpS x6.2 i).2.text 24 := ⟨_, rfl⟩; rw [← hy] at E hB1
    refine ⟨S.stab.sub (by first | (simp; done) | (simp +contextual; done) | (simp [*]; done)), ?_⟩
    refine zCd E rfl rfl rfl (by decide) rfl Tryz.func53 rfl (by kernel_rfl) rfl (zGv p _ B1 _ hB1 (S.hp.sel (zAl (by repeat (first | exact pk1 | apply zAc)) (zAu _))) 64) ?_
    rintro v50 w ⟨B2, rfl, hB2, hT⟩; clear E a; intro a E
    replace S := S.call1 (zAl (by repeat (first | exact pk1 | apply zAc)) (zAu _)) hT; obtain ⟨z, hz⟩ : ∃ z, z = y.2.text 64 := ⟨_, rfl⟩; rw [← hz] at E hB2
    refine ⟨S.stab.sub (by first | (simp; done) | (simp +contextual; done) | (simp [*]; done)), ?_⟩
    refine zm E rfl (fun w h => zCv (cells := [_, _]) E rfl rfl rfl) ?_; clear E a; intro a E
    refine zDm rfl rfl (zDn (cells := [_, _]) E S rfl rfl (by decide) rfl rfl rfl rfl rfl (by decide) rfl ?_); clear E S a; intro a w b52 E S; refine ⟨S.stab.sub (by first | (simp; done) | (simp +contextual; done) | (simp [*]; done)), ?_⟩
    refine zDm rfl rfl (zCn (by' := 32) E S rfl rfl (by decide) rfl rfl hB (by repeat (first | exact pk1 | apply zAc)) ((zFf (g := b52) (T := 70) (xs := [str y.1, str z.1]) (s := 2) (m := 1) rfl (by simp [Value.oneCell']) (by omega) 1).src (S.stab.at (by repeat (first | exact mm1 | assumption | apply List.Mem.tail))) rfl) rfl rfl rfl rfl rfl rfl (by simp only [maxLen]; omega) (by omega) ?_); clear E S a; intro a w v53 C53 E S hB53; refine ⟨S.stab.sub (by first | (simp; done) | (simp +contextual; done) | (simp [*]; done)), ?_⟩
    obtain ⟨ad2, c2, rfl⟩ := hB53.slice
    refine zm E rfl (fun w h => zBm E rfl rfl) ?_; clear E a; intro a E
    refine zm E rfl (fun w h => by first | exact zAg (q := 7) E rfl rfl rfl | exact zAh (q := 7) E rfl rfl rfl) ?_; clear E a; intro a E
    refine zCt rfl rfl (zBp E S rfl rfl rfl rfl rfl rfl (by repeat (first | exact pk1 | apply zAc)) (by first | exact Nat.le_of_ble_eq_true rfl | (simp; done) | (simp; omega)) ?_); clear E S a; intro a w E S; try dsimp only [List.set] at S
    refine zBz ?_
    refine zBe ?_
    refine zAf hK ?_; clear hK; clear K
    refine zAb ?_
    refine zp E (zBt E rfl rfl rfl (by first | exact zCh (y := 1) (by omega) | exact w_in (by omega) | exact zBw (by omega) | exact rfl)) ?_; clear E a; intro a E
    refine zp E (zAe E rfl rfl) ?_; clear E a; intro a E
    refine wpList_nil ?_
    refine zBj ?_
    have hps : prpS x6.2 (i + 1) = ((prpS x6.2 i).1 ++ [⟨y.1, z.1⟩], z.2) := by rw [prpS, ← hy, ← hz]
    have hB2' : Buf C53 70 2 (.slice ad2 (i + 1) c2) (i + 1) ((prpS x6.2 (i + 1)).1.flatMap Prp.lay) := by
      rw [hps, List.flatMap_append]; exact hB53
    exact ⟨_, by omega, i + 1, B2, C53, _, rfl, by omega, by rw [hps]; exact hB2, hB2', S.only (Bs := [B2, [(b, _)], C53]) (zAl (by repeat (first | exact pk1 | apply zAc)) (zAl (by repeat (first | exact pk1 | apply zAc)) (zAl (by repeat (first | exact pk1 | apply zAc)) (zAu _)))), E.keep (zAa rfl (zAa rfl (zAa rfl (zAa rfl zAm))))⟩
  · replace hb := Nrm.nrm hb
    refine wp_exit ?_
    refine zBa ?_; clear hK; clear K
    refine zBa ?_
    refine zCg ?_
    refine end0 E rfl ?_
    obtain rfl : i = x6.1 := by omega
    rw [htk]
    subst hr1
    exact ⟨_, rfl, A', D1, v, nilv, nilv, hA', ⟨D1, [], [], by simp, by show Buf D1 _ 2 v (prpS x6.2 x6.1).1.length _; rw [prpS_len]; exact hB, Buf.nil _ _, Buf.nil _ _⟩, S.tr⟩
omit hA H in
theorem takF_fn {k : Int} (h : inK k) : ∃ fn : Func, Tryz.prog.funcs[takF k]? = some fn ∧ fn.body.isSome = true ∧ (fn.name == "runtime.NumGoroutine") = false := by
  rcases zEt h with rfl | rfl | rfl | rfl | rfl | rfl | rfl
  · exact ⟨_, Tryz.func52, rfl, by kernel_rfl⟩
  · exact ⟨_, Tryz.func95, rfl, by kernel_rfl⟩
  · exact ⟨_, Tryz.func59, rfl, by kernel_rfl⟩
  · exact ⟨_, Tryz.func63, rfl, by kernel_rfl⟩
  · exact ⟨_, Tryz.func67, rfl, by kernel_rfl⟩
  · exact ⟨_, Tryz.func101, rfl, by kernel_rfl⟩
  · exact ⟨_, Tryz.func101, rfl, by kernel_rfl⟩
theorem takK_ret (hk : inK k) : Ret Tryz.prog (takF k) #[ptr p, ptr b] w0 fun _ w' => ∃ A' D pv kv dv, RdC 108 p (zHw k s).2 A' ∧ zKo D (zHw k s).1 pv kv dv ∧ Trs w0 w' [A, [(b, cel ((zDo k).cells nilv nilv nilv) 26)]] [A', [(b, cel ((zHw k s).1.cells pv kv dv) 26)], D] := by
  rcases zEt hk with rfl | rfl | rfl | rfl | rfl | rfl | rfl
  · exact take1_ret p b 1 s A hA w0 H
  · exact take2_ret p b 2 s A hA w0 H
  · exact take3_ret p b 3 s A hA w0 H
  · exact take4_ret p b 4 s A hA w0 H
  · exact take5_ret p b 5 s A hA w0 H
  · exact take6_ret p b 6 s A hA w0 H
  · exact take6_ret p b 7 s A hA w0 H
end
end Go.Proofs.YtbogecljkaimdaaGreatDoor
namespace Go.Sl
section
variable {α : Type} {T : TypeId} {s : Nat} {lay : List α → List Value}
def Inn (T : TypeId) (s : Nat) (lay : List α → List Value) : zAw → List Value → List (List α) → Prop
  | D, [], [] => D = []
  | D, v :: vs, x :: xs => ∃ C D', D = C ++ D' ∧ Buf C T s v x.length (lay x) ∧ Inn T s lay D' vs xs
  | _, _, _ => False
theorem Inn.len : ∀ {D : zAw} {vs : List Value} {xs : List (List α)}, Inn T s lay D vs xs → vs.length = xs.length
  | _, [], [], _ => rfl
  | _, _ :: _, _ :: _, ⟨_, _, _, _, h⟩ => by simp [h.len]
  | _, [], _ :: _, h => h.elim
  | _, _ :: _, [], h => h.elim
theorem Inn.nil : Inn T s lay [] [] [] := rfl
theorem Inn.one : ∀ {D : zAw} {vs : List Value} {xs : List (List α)}, Inn T s lay D vs xs → ∀ u ∈ vs, u.oneCell' = true
  | _, [], [], _ => fun u hu => by cases hu
  | _, _ :: _, _ :: _, ⟨_, _, _, hC, h⟩ => fun u hu => by
    rcases List.mem_cons.1 hu with rfl | hu
    · obtain ⟨ad, c, rfl⟩ := hC.slice; rfl
    · exact h.one u hu
  | _, [], _ :: _, h => h.elim
  | _, _ :: _, [], h => h.elim
theorem Inn.at : ∀ {D : zAw} {vs : List Value} {xs : List (List α)}, Inn T s lay D vs xs → ∀ {i : Nat} (hi : i < xs.length),
    ∃ A C B v, D = A ++ (C ++ B) ∧ vs[i]? = some v ∧ Buf C T s v xs[i].length (lay xs[i]) ∧ ∀ C' v' x', Buf C' T s v' x'.length (lay x') → Inn T s lay (A ++ (C' ++ B)) (vs.set i v') (xs.set i x')
  | _, v :: vs, x :: xs, ⟨C, D', e, hC, h⟩, 0, _ => ⟨[], C, D', v, by simpa using e, rfl, hC, fun C' v' x' hC' => ⟨C', D', by simp, hC', h⟩⟩
  | _, v :: vs, x :: xs, ⟨C, D', e, hC, h⟩, i + 1, hi => by
    obtain ⟨A, C2, B, v2, e2, hv, hB, hk⟩ := h.at (i := i) (by simpa using hi)
    refine ⟨C ++ A, C2, B, v2, by rw [e, e2, List.append_assoc], hv, hB, fun C' v' x' hC' => ?_⟩
    exact ⟨C, A ++ (C' ++ B), by rw [List.append_assoc], hC, hk C' v' x' hC'⟩
  | _, [], [], _, _, hi => absurd hi (by simp)
  | _, [], _ :: _, h, _, _ => h.elim
  | _, _ :: _, [], h, _, _ => h.elim
theorem Inn.rd {D : zAw} {vs : List Value} {xs : List (List α)} (h : Inn T s lay D vs xs) {i : Nat} (hi : i < xs.length) : ∃ v, vs[i]? = some v ∧ Rd D s v xs[i].length (lay xs[i]) := by
  obtain ⟨A, C, B, v, rfl, hv, hC, -⟩ := h.at hi
  exact ⟨v, hv, hC.rd.sub fun x hx => by simp [hx]⟩
end
section
variable {w0 w : World} {As Ls : List zAw} {A B C : zAw}
end
theorem Rd.bytes {C : zAw} {ad : Option Addr} {c : Nat} {l : List UInt8} (h : Rd C 1 (.slice ad l.length c) l.length (byt l)) {lo hi mx : Nat} (h1 : lo ≤ hi) (h2 : hi ≤ l.length) (h3 : hi ≤ mx) :
    Rd C 1 (sliced ad lo hi mx 1) ((l.drop lo).take (hi - lo)).length (byt ((l.drop lo).take (hi - lo))) := by
  have h4 := h.piece rfl h1 h2 h3
  rw [Nat.mul_one, Nat.mul_one, zJi, zHe] at h4
  rwa [List.length_take, List.length_drop, Nat.min_eq_left (by omega)]
end Go.Sl
namespace Go.Proofs.YtbogecljkaimdaaGreatDoor
open Go.Sl
set_option maxRecDepth 10000
theorem equal_ret (D1 D2 : zAw) (v1 v2 : Value) (xs ys : List UInt8) (h1 : Rd D1 1 v1 xs.length (byt xs)) (h2 : Rd D2 1 v2 ys.length (byt ys)) (hl : xs.length ≤ 140737488355328) (As : List zAw) (m1 : D1 ∈ As) (m2 : D2 ∈ As) (w0 : World) (H : Hp w0 As) :
    Ret Tryz.prog 45 #[v1, v2] w0 fun u w' => u = .bool (decide (xs = ys)) ∧ Trs w0 w' As As := by
  have S := St.begin H
  obtain ⟨a1, c1, rfl⟩ := h1.slice
  obtain ⟨a2, c2, rfl⟩ := h2.slice
  refine zCl 26 Tryz.func45 rfl rfl (by decide) ?_; intro a E
  refine wp_seq_k ?_; intro K hK
  refine zAb ?_
  refine zp E (zAd E rfl rfl) ?_; clear E a; intro a E
  refine wpList_nil ?_
  refine zAf hK ?_; clear hK; clear K
  iterate 2 (refine wp_seq_k ?_; intro K hK)
  refine zAb ?_
  refine zp E (zAe E rfl rfl) ?_; clear E a; intro a E
  refine zp E (by first | exact zBu E rfl rfl rfl | exact zAx E rfl rfl rfl | exact zAq E rfl rfl rfl) ?_; clear E a; intro a E
  refine zp E (zAe E rfl rfl) ?_; clear E a; intro a E
  refine zp E (by first | exact zBu E rfl rfl rfl | exact zAx E rfl rfl rfl | exact zAq E rfl rfl rfl) ?_; clear E a; intro a E
  refine zp E (by first | exact zDa E rfl rfl rfl | exact zBi E rfl rfl rfl rfl | exact zBs E rfl rfl rfl rfl | exact zBl E rfl rfl rfl) ?_; clear E a; intro a E
  refine wpList_nil ?_
  refine zAf hK ?_; clear hK; clear K
  refine zBh E rfl (fun hb => ?_) (fun hb => ?_)
  · replace hb := Nrm.nrm hb
    refine wp_seq_k ?_; intro K hK
    refine zAb ?_
    refine zp E (zAd E rfl rfl) ?_; clear E a; intro a E
    refine wpList_nil ?_
    refine zAf hK ?_; clear hK; clear K
    refine wp_ret ?_
    refine zAy ?_; clear hK; clear K
    refine ret1 E rfl rfl ?_
    exact ⟨_, rfl, by rw [decide_eq_false (fun e => hb (by rw [e]))], S.tr⟩
  · replace hb := Nrm.nrm hb
    have hlen : xs.length = ys.length := (by omega)
    refine wp_skip ?_
    refine zAf hK ?_; clear hK; clear K
    iterate 2 (refine wp_seq_k ?_; intro K hK)
    refine zAb ?_
    refine zp E (zAe E rfl rfl) ?_; clear E a; intro a E
    refine zp E (by first | exact zBu E rfl rfl rfl | exact zAx E rfl rfl rfl | exact zAq E rfl rfl rfl) ?_; clear E a; intro a E
    refine zp E (zAe E rfl rfl) ?_; clear E a; intro a E
    refine wpList_nil ?_
    refine zAf hK ?_; clear hK; clear K
    refine wp_block ?_
    refine wp_loop_ghost (fun (m : Nat) (a : Act) (w' : World) => ∃ i : Nat, m = xs.length - i ∧ i ≤ xs.length ∧ xs.take i = ys.take i ∧ St w0 As w' As ∧ Fr a 26 [(0, .slice a1 xs.length c1), (1, .slice a2 ys.length c2), (12, .int .i64 xs.length), (13, .int .i64 i)]) (xs.length) ?_ ?_
    · exact ⟨0, by omega, by omega, rfl, S, E.keep (zAa rfl (zAa rfl (zAa rfl (zAa rfl zAm))))⟩
    clear E; clear a; (try clear S); rintro m a w ⟨i, rfl, hi, he, S, E⟩
    refine wp_seq_k ?_; intro K hK
    refine zAb ?_
    refine zp E (zCk E rfl rfl rfl) ?_; clear E a; intro a E
    refine wpList_nil ?_
    refine zAf hK ?_; clear hK; clear K
    refine wp_seq_k ?_; intro K hK
    refine zBh E rfl (fun hb => ?_) (fun hb => ?_)
    · replace hb := Nrm.nrm hb
      refine wp_skip ?_
      refine zAf hK ?_; clear hK; clear K
      refine wp_seq_k ?_; intro K hK
      refine wp_block ?_
      refine wp_seq_k ?_; intro K hK
      have hil : i < xs.length := by omega
      have hil2 : i < ys.length := by omega
      obtain ⟨b1, o1, rfl⟩ := h1.addr (by omega)
      obtain ⟨b2, o2, rfl⟩ := h2.addr (by omega)
      refine zAb ?_
      refine zp E (zAe E rfl rfl) ?_; clear E a; intro a E
      refine zp E (zAd E rfl rfl) ?_; clear E a; intro a E
      refine wpList_nil ?_
      refine zAf hK ?_; clear hK; clear K
      refine wp_seq_k ?_; intro K hK
      refine zDp S (.ofL [(0, 0), (1, 0), (2, 0), (3, 0), (4, 0), (5, 0), (6, 0), (7, 0), (8, 0)]) [D1, D2] (fun h => h.sub (by first | (simp; done) | (simp +contextual; done) | (simp [*]; done))) (by kernel_rfl) (by kernel_rfl) ?_
      clear S; intro w S
      iterate 2 (refine zm E rfl (fun w h => zAe E rfl rfl) ?_; clear E a; intro a E)
      refine zm E rfl (fun w h => by first | exact zBo E rfl rfl rfl rfl rfl rfl (by omega) | exact zBq E rfl rfl rfl rfl rfl rfl (by omega) | exact zBd E rfl rfl rfl rfl rfl rfl (by omega)) ?_; clear E a; intro a E
      refine zm E rfl (fun w h => zAj E rfl rfl rfl (h1.byte (h.at (by simp)) hil)) ?_; clear E a; intro a E
      iterate 2 (refine zm E rfl (fun w h => zAe E rfl rfl) ?_; clear E a; intro a E)
      refine zm E rfl (fun w h => by first | exact zBo E rfl rfl rfl rfl rfl rfl (by omega) | exact zBq E rfl rfl rfl rfl rfl rfl (by omega) | exact zBd E rfl rfl rfl rfl rfl rfl (by omega)) ?_; clear E a; intro a E
      refine zm E rfl (fun w h => zAj E rfl rfl rfl (h2.byte (h.at (by simp)) hil2)) ?_; clear E a; intro a E
      refine zm E rfl (fun w h => by first | exact zDa E rfl rfl rfl | exact zBi E rfl rfl rfl rfl | exact zBs E rfl rfl rfl rfl | exact zBl E rfl rfl rfl) ?_; clear E a; intro a E
      refine zBz ?_
      refine zAf hK ?_; clear hK; clear K
      refine zBh E rfl (fun hb => ?_) (fun hb => ?_)
      · replace hb := Nrm.nrm hb
        refine wp_seq_k ?_; intro K hK
        refine zAb ?_
        refine zp E (zAd E rfl rfl) ?_; clear E a; intro a E
        refine wpList_nil ?_
        refine zAf hK ?_; clear hK; clear K
        refine wp_ret ?_
        refine zCj ?_
        refine zAy ?_; clear hK; clear K
        refine zAy ?_
        refine zCj ?_
        refine zAy ?_; clear hK; clear K
        refine ret1 E rfl rfl ?_
        refine ⟨_, rfl, ?_, S.tr⟩
        rw [decide_eq_false]
        rintro rfl
        exact hb rfl
      · replace hb := Nrm.nrm hb
        refine wp_skip ?_
        refine zBe ?_
        refine zAf hK ?_; clear hK; clear K
        refine zAb ?_
        refine zp E (zBt E rfl rfl rfl (by first | exact zCh (y := 1) (by omega) | exact w_in (by omega) | exact zBw (by omega) | exact rfl)) ?_; clear E a; intro a E
        refine zp E (zAe E rfl rfl) ?_; clear E a; intro a E
        refine wpList_nil ?_
        refine zBj ?_
        refine ⟨_, ?_, i + 1, rfl, by omega, ?_, S, E.keep (zAa rfl (zAa rfl (zAa rfl (zAa rfl zAm))))⟩
        · omega
        · have hx : xs[i] = ys[i] := UInt8.toNat_inj.1 (by omega)
          rw [← List.take_append_getElem hil, ← List.take_append_getElem hil2, he, hx]
    · replace hb := Nrm.nrm hb
      refine wp_exit ?_
      refine zBa ?_; clear hK; clear K
      refine zBa ?_
      refine zCg ?_
      refine zAf hK ?_; clear hK; clear K
      refine wp_seq_k ?_; intro K hK
      refine zAb ?_
      refine zp E (zAd E rfl rfl) ?_; clear E a; intro a E
      refine wpList_nil ?_
      refine zAf hK ?_; clear hK; clear K
      refine wp_ret ?_
      refine ret1 E rfl rfl ?_
      obtain rfl : i = xs.length := by omega
      refine ⟨_, rfl, ?_, S.tr⟩
      rw [decide_eq_true]
      rw [List.take_length] at he
      rw [he, List.take_of_length_le (by omega)]
theorem zGo (e : Int) (As : List zAw) (w0 : World) (H : Hp w0 As) :
    Ret Tryz.prog 42 #[.int .i64 e] w0 fun u w' => u = .tuple #[.agg #[.int .i64 0, str [], .int .i64 0, .int .i64 0, .int .i64 0, .int .i64 0, str [], nilv, .int .i64 0, .int .i64 0, .int .i64 0, nilv, nilv], .int .i64 0, .agg #[.int .u64 0, .int .u64 0, .int .u64 0, .int .u64 0], .int .i64 e] ∧ Trs w0 w' As As := by
  have S := St.begin H
  refine zCu 9 Tryz.func42 rfl rfl (by decide) ?_; intro a E
  refine wp_seq_k ?_; intro K hK
  refine zAb ?_
  refine zAo rfl (zBy E S rfl rfl (by decide) rfl rfl rfl ?_); clear E S a; intro a w b2 E S
  refine zp E (zAd E rfl rfl) ?_; clear E a; intro a E
  refine zAo rfl (zBy E S rfl rfl (by decide) rfl rfl rfl ?_); clear E S a; intro a w b4 E S
  refine zp E (zAd E rfl rfl) ?_; clear E a; intro a E
  refine wpList_nil ?_
  refine zAf hK ?_; clear hK; clear K
  refine wp_seq_k ?_; intro K hK
  refine zAb ?_
  refine zp E (zCv (cells := [_, _, _, _, _, _, _, _, _, _, _, _, _]) E rfl rfl rfl) ?_; clear E a; intro a E
  refine zp E (zCv (cells := [_, _, _, _]) E rfl rfl rfl) ?_; clear E a; intro a E
  refine zp E (zAe E rfl rfl) ?_; clear E a; intro a E
  refine zAo rfl (zBk E S rfl rfl rfl rfl (by simp [Value.oneCell']) rfl (by repeat (first | exact pk1 | apply zAc)) (by simp) ?_); clear E S a; intro a w E S; simp only [List.take_succ_cons, List.take_zero, List.drop_succ_cons, List.drop_zero, List.cons_append, List.nil_append, List.append_nil, List.length_cons, List.length_nil, Nat.zero_add, Nat.add_zero] at S
  refine zp E (zAd E rfl rfl) ?_; clear E a; intro a E
  refine zAo rfl (zBk E S rfl rfl rfl rfl (by simp [Value.oneCell']) rfl (by repeat (first | exact pk1 | apply zAc)) (by simp) ?_); clear E S a; intro a w E S; simp only [List.take_succ_cons, List.take_zero, List.drop_succ_cons, List.drop_zero, List.cons_append, List.nil_append, List.append_nil, List.length_cons, List.length_nil, Nat.zero_add, Nat.add_zero] at S
  refine zp E (zAd E rfl rfl) ?_; clear E a; intro a E
  refine wpList_nil ?_
  refine zAf hK ?_; clear hK; clear K
  refine wp_ret ?_
  refine zFh E rfl rfl rfl rfl rfl (S.get (by repeat (first | exact pk1 | apply zAc))) rfl (S.get (by repeat (first | exact pk1 | apply zAc))) rfl ?_
  exact ⟨_, rfl, rfl, S.tail2.tr⟩
instance (k : Int) : Decidable (inK k) := by unfold inK; infer_instance
def zFb (b : List UInt8) : Nat := zDf (b.take 1)
def zDc (b : List UInt8) : Nat := zDf ((b.drop 1).take 4)
def zIs (e : Int) : Int × Rec × Nat × Fs := (e, zDo 0, 0, zGd)
def ownD (b : List UInt8) (s : Fs) : Fs := shaF (zFa s ++ b.take (5 + zDc b))
def zJe (b : List UInt8) : List UInt8 := (b.drop 5).take (zDc b)
noncomputable def decR (b : List UInt8) (s : Fs) : Int × Rec × Nat × Fs :=
  if b.length < 5 then zIs 10
  else if ¬ inK (zFb b) ∨ 2048 < zDc b then zIs 200
  else if b.length < 37 + zDc b then zIs 10
  else if zFa (ownD b s) ≠ (b.drop (5 + zDc b)).take 32 then zIs 201
  else if (zHw (zFb b) ⟨zJe b, 0, 0⟩).2.done ≠ 0 ∨ ckB (zHw (zFb b) ⟨zJe b, 0, 0⟩).1 = false then zIs 200
  else (0, (zHw (zFb b) ⟨zJe b, 0, 0⟩).1, 37 + zDc b, ownD b s)
theorem kindOf_lt (b : List UInt8) : zFb b < 256 := by
  have := numOf_cut b 0 1
  rwa [List.drop_zero] at this
theorem sizeOf_lt (b : List UInt8) : zDc b < 4294967296 := numOf_cut b 1 4
section
variable {b : List UInt8} {s : Fs}
theorem dec_1 (h : b.length < 5) : decR b s = zIs 10 := by unfold decR; rw [if_pos h]
theorem dec_2 (h5 : 5 ≤ b.length) (h : ¬ inK (zFb b) ∨ 2048 < zDc b) : decR b s = zIs 200 := by
  unfold decR; rw [if_neg (by omega), if_pos h]
variable (h5 : 5 ≤ b.length) (hk : inK (zFb b)) (hn : zDc b ≤ 2048)
include h5 hk hn
theorem dec_3 (h : b.length < 37 + zDc b) : decR b s = zIs 10 := by
  unfold decR; rw [if_neg (by omega), if_neg (by rintro (q | q); exact q hk; omega), if_pos h]
theorem dec_4 (h7 : 37 + zDc b ≤ b.length) (h : zFa (ownD b s) ≠ (b.drop (5 + zDc b)).take 32) : decR b s = zIs 201 := by
  unfold decR; rw [if_neg (by omega), if_neg (by rintro (q | q); exact q hk; omega), if_neg (by omega), if_pos h]
theorem dec_5 (h7 : 37 + zDc b ≤ b.length) (h : zFa (ownD b s) = (b.drop (5 + zDc b)).take 32) (h8 : (zHw (zFb b) ⟨zJe b, 0, 0⟩).2.done ≠ 0 ∨ ckB (zHw (zFb b) ⟨zJe b, 0, 0⟩).1 = false) : decR b s = zIs 200 := by
  unfold decR; rw [if_neg (by omega), if_neg (by rintro (q | q); exact q hk; omega), if_neg (by omega), if_neg (by simpa using h), if_pos h8]
theorem dec_6 (h7 : 37 + zDc b ≤ b.length) (h : zFa (ownD b s) = (b.drop (5 + zDc b)).take 32) (h8 : (zHw (zFb b) ⟨zJe b, 0, 0⟩).2.done = 0) (h9 : ckB (zHw (zFb b) ⟨zJe b, 0, 0⟩).1 = true) :
    decR b s = (0, (zHw (zFb b) ⟨zJe b, 0, 0⟩).1, 37 + zDc b, ownD b s) := by
  unfold decR; rw [if_neg (by omega), if_neg (by rintro (q | q); exact q hk; omega), if_neg (by omega), if_neg (by simpa using h), if_neg (by rintro (q | q); exact q h8; rw [h9] at q; cases q)]
end
theorem text_len (s : Rdr) (m : Int) : (s.text m).1.length ≤ 65536 := by
  have h2 : zDf (s.cut 2 0) < 65536 := Nat.lt_of_lt_of_le (zHf _) (Nat.pow_le_pow_right (n := 256) (j := 2) (by omega) (by simp only [Rdr.cut, List.length_take]; omega))
  unfold Rdr.text
  repeat' split
  all_goals first | simp | skip
  simp only [Rdr.cut, List.length_take] at *
  omega
theorem bytes_len (s : Rdr) (k : Nat) : (s.bytes k).1.length ≤ k := by
  unfold Rdr.bytes
  repeat' split
  all_goals first | simp | skip
  simp only [Rdr.cut, List.length_take] at *
  omega
theorem prpS_len2 (s : Rdr) (i : Nat) : ∀ p ∈ (prpS s i).1, p.name.length ≤ 1048576 ∧ p.value.length ≤ 1048576 := by
  induction i with
  | zero => intro p hp; simp [prpS] at hp
  | succ i ih =>
    intro p hp
    rw [prpS] at hp
    rcases List.mem_append.1 hp with hp | hp
    · exact ih p hp
    · obtain rfl := List.mem_singleton.1 hp
      have h1 := text_len (prpS s i).2 24
      have h2 := text_len ((prpS s i).2.text 24).2 64
      exact ⟨by simp only; omega, by simp only; omega⟩
theorem keepT_len (s : Rdr) (size : Nat) (less : Int) : (zHa s size less).1.length ≤ 241 := by
  rw [zHa, keepS_len]; omega
theorem num1_le (s : Rdr) : (s.num 1).1 ≤ 1048576 := Nat.le_trans (Nat.le_of_lt (zEq s 1)) (by decide)
theorem num2_le (s : Rdr) : (s.num 2).1 ≤ 1048576 := Nat.le_trans (Nat.le_of_lt (zEq s 2)) (by decide)
theorem text_le (s : Rdr) (m : Int) : (s.text m).1.length ≤ 1048576 := Nat.le_trans (text_len s m) (by decide)
theorem keepT_le (s : Rdr) (size : Nat) (less : Int) : (zHa s size less).1.length ≤ 1048576 := Nat.le_trans (keepT_len s size less) (by decide)
theorem bytes_le (s t : Rdr) : (t.bytes (s.num 2).1).1.length ≤ 1048576 := Nat.le_trans (bytes_len t _) (num2_le s)
theorem prpS_le (s t : Rdr) : (prpS t (s.num 1).1).1.length ≤ 1048576 := by rw [prpS_len]; exact num1_le s
theorem zDg {α : Type} : ([] : List α).length ≤ 1048576 := Nat.zero_le _
theorem zHx : ∀ p ∈ ([] : List Prp), p.name.length ≤ 1048576 ∧ p.value.length ≤ 1048576 := fun _ h => nomatch h
theorem take1_sml (k : Int) (s : Rdr) : Sml (take1 k s).1 := ⟨text_le s 24, zDg, zDg, zHx, zDg, zDg⟩
theorem take2_sml (k : Int) (s : Rdr) : Sml (zKw k s).1 := by
  unfold zKw
  extract_lets n a b c d t m p
  have hp : p.1.length ≤ 1048576 := prpS_le t.2 m.2
  have hq : ∀ q ∈ p.1, q.name.length ≤ 1048576 ∧ q.value.length ≤ 1048576 := prpS_len2 m.2 m.1
  have h1 : n.1.length ≤ 1048576 := text_le s 240
  have h2 : t.1.length ≤ 1048576 := text_le d.2 24
  clear_value n a b c d t p
  exact ⟨h1, h2, hp, hq, zDg, zDg⟩
theorem take3_sml (k : Int) (s : Rdr) : Sml (take3 k s).1 := ⟨zDg, zDg, zDg, zHx, keepT_le s 4 0, zDg⟩
theorem take4_sml (k : Int) (s : Rdr) : Sml (take4 k s).1 := ⟨zDg, zDg, zDg, zHx, keepT_le _ 2 1, zDg⟩
theorem take5_sml (k : Int) (s : Rdr) : Sml (take5 k s).1 := ⟨zDg, zDg, zDg, zHx, zDg, bytes_le _ _⟩
theorem take6_sml (k : Int) (s : Rdr) : Sml (take6 k s).1 := ⟨zDg, zDg, zDg, zHx, zDg, zDg⟩
theorem takeK_sml {k : Int} (h : inK k) (s : Rdr) : Sml (zHw k s).1 := by
  rcases zEt h with rfl | rfl | rfl | rfl | rfl | rfl | rfl
  · exact take1_sml 1 s
  · exact take2_sml 2 s
  · exact take3_sml 3 s
  · exact take4_sml 4 s
  · exact take5_sml 5 s
  · exact take6_sml 6 s
  · exact take6_sml 7 s
end Go.Proofs.YtbogecljkaimdaaGreatDoor
namespace Go.Proofs.YtbogecljkaimdaaGreatDoor
open Go.Sl
set_option maxRecDepth 10000
def decP (x : Int × Rec × Nat × Fs) (As : List zAw) (w0 : World) (u : Value) (w' : World) : Prop :=
  ∃ X pv kv dv, u = .tuple #[.agg (x.2.1.cells pv kv dv).toArray, .int .i64 x.2.2.1, x.2.2.2.agg, .int .i64 x.1] ∧ zKo X x.2.1 pv kv dv ∧ Trs w0 w' As (X :: As)
theorem recO_none : zKo [] (zDo 0) nilv nilv nilv := ⟨[], [], [], rfl, Buf.nil _ _, Buf.nil _ _, Buf.nil _ _⟩
theorem zHy {b : List UInt8} {s : Fs} {e : Int} (h : decR b s = zIs e) {As : List zAw} {w0 w' : World} (T : Trs w0 w' As ([] :: As)) : decP (decR b s) As w0 (.tuple #[.agg #[.int .i64 0, str [], .int .i64 0, .int .i64 0, .int .i64 0, .int .i64 0, str [], nilv, .int .i64 0, .int .i64 0, .int .i64 0, nilv, nilv], .int .i64 0, .agg #[.int .u64 0, .int .u64 0, .int .u64 0, .int .u64 0], .int .i64 e]) w' := by
  rw [h]
  exact ⟨[], nilv, nilv, nilv, rfl, recO_none, T⟩
set_option maxHeartbeats 1000000 in
theorem zLh (D : zAw) (ad : Option Addr) (c : Nat) (b : List UInt8) (hD : Rd D 1 (.slice ad b.length c) b.length (byt b)) (hcap : b.length ≤ c) (hbl : b.length ≤ 4000000) (s : Fs) (R' : List zAw) (hG : Tab (D :: R') 2 shaK) (w0 : World) (H : Hp w0 (D :: R')) :
    Ret Tryz.prog 19 #[.slice ad b.length c, s.agg] w0 (decP (decR b s) (D :: R') w0) := by
  have S := St.begin H
  refine zCl 116 Tryz.func19 rfl rfl (by decide) ?_; intro a E
  refine wp_seq_k ?_; intro K hK
  refine zAb ?_
  refine zAo rfl (zCm E S rfl rfl (by decide) rfl rfl ?_); clear E S a; intro a w b3 E S
  refine zAo rfl (zBy E S rfl rfl (by decide) rfl rfl rfl ?_); clear E S a; intro a w b4 E S
  refine zp E (zAd E rfl rfl) ?_; clear E a; intro a E
  refine zAo rfl (zBy E S rfl rfl (by decide) rfl rfl rfl ?_); clear E S a; intro a w b6 E S
  refine zp E (zAd E rfl rfl) ?_; clear E a; intro a E
  refine wpList_nil ?_
  refine zAf hK ?_; clear hK; clear K
  refine wp_seq_k ?_; intro K hK
  refine zAb ?_
  refine zp E (zAd E rfl rfl) ?_; clear E a; intro a E
  refine wpList_nil ?_
  refine zAf hK ?_; clear hK; clear K
  iterate 2 (refine wp_seq_k ?_; intro K hK)
  refine zAb ?_
  refine zp E (zAe E rfl rfl) ?_; clear E a; intro a E
  refine zp E (by first | exact zBu E rfl rfl rfl | exact zAx E rfl rfl rfl | exact zAq E rfl rfl rfl) ?_; clear E a; intro a E
  refine zp E (zCk E rfl rfl rfl) ?_; clear E a; intro a E
  refine wpList_nil ?_
  refine zAf hK ?_; clear hK; clear K
  refine zBh E rfl (fun hb => ?_) (fun hb => ?_)
  · replace hb := Nrm.nrm hb
    refine wp_seq_k ?_; intro K hK
    refine zAb ?_
    refine zp E (zAe E rfl rfl) ?_; clear E a; intro a E
    refine zCy E rfl rfl (by decide) rfl rfl Tryz.func42 rfl (by kernel_rfl) rfl (zGo 10 _ _ S.hp) ?_
    rintro v22 w ⟨rfl, hT⟩; clear E a; intro a E
    have S := S.all hT
    iterate 4 (refine zp E (zBr E rfl rfl rfl) ?_; clear E a; intro a E)
    refine zAo rfl (zBk E S rfl rfl rfl rfl (by simp [Value.oneCell']) rfl (by repeat (first | exact pk1 | apply zAc)) (by simp) ?_); clear E S a; intro a w E S; simp only [List.take_succ_cons, List.take_zero, List.drop_succ_cons, List.drop_zero, List.cons_append, List.nil_append, List.append_nil, List.length_cons, List.length_nil, Nat.zero_add, Nat.add_zero] at S
    refine zp E (zAd E rfl rfl) ?_; clear E a; intro a E
    refine zAo rfl (zBk E S rfl rfl rfl rfl (by simp [Value.oneCell']) rfl (by repeat (first | exact pk1 | apply zAc)) (by simp) ?_); clear E S a; intro a w E S; simp only [List.take_succ_cons, List.take_zero, List.drop_succ_cons, List.drop_zero, List.cons_append, List.nil_append, List.append_nil, List.length_cons, List.length_nil, Nat.zero_add, Nat.add_zero] at S
    refine zp E (zAd E rfl rfl) ?_; clear E a; intro a E
    refine wpList_nil ?_
    refine zAf hK ?_; clear hK; clear K
    refine wp_ret ?_
    refine zAy ?_; clear hK; clear K
    refine zFh E rfl rfl rfl rfl rfl (S.get (by repeat (first | exact pk1 | apply zAc))) rfl (S.get (by repeat (first | exact pk1 | apply zAc))) rfl ?_
    exact ⟨_, rfl, zHy (dec_1 (by omega)) ((St.drops0 [_, _, _] S).addNil).tr⟩
  · replace hb := Nrm.nrm hb
    refine wp_skip ?_
    refine zAf hK ?_; clear hK; clear K
    refine wp_seq_k ?_; intro K hK
    have h5 : 5 ≤ b.length := by omega
    refine zAb ?_
    refine zp E (zAe E rfl rfl) ?_; clear E a; intro a E
    refine zp E (zGa (hi := 5) (s := 1) E rfl rfl rfl rfl rfl rfl (by omega)) ?_; clear E a; intro a E
    have hR5 := hD.bytes (lo := 0) (hi := 5) (mx := c) (by omega) (by omega) (by omega)
    rw [List.drop_zero, Nat.sub_zero] at hR5
    have hl5 : (b.take 5).length = 5 := by rw [List.length_take]; omega
    refine zAp E rfl rfl (by decide) rfl Tryz.func43 rfl (by kernel_rfl) rfl (zLc D _ (b.take 5) _ hR5 (S.hp.sel (zAl (by repeat (first | exact pk1 | apply zAc)) (zAu _))) (by omega)) ?_
    rintro v29 w ⟨p, A, rfl, hA, hT⟩; clear E a; intro a E
    have S := S.call2 (zAl (by repeat (first | exact pk1 | apply zAc)) (zAu _)) hT
    refine zp E (zAd E rfl rfl) ?_; clear E a; intro a E
    refine wpList_nil ?_
    refine zAf hK ?_; clear hK; clear K
    refine wp_seq_k ?_; intro K hK
    refine zAb ?_
    refine zp E (zAe E rfl rfl) ?_; clear E a; intro a E
    refine zAp E rfl rfl (by decide) rfl Tryz.func44 rfl (by kernel_rfl) rfl (rnum_fit p (b.take 5) 0 A _ hA (S.hp.sel (zAl (by repeat (first | exact pk1 | apply zAc)) (zAu _))) 1 (by omega) (by omega) (by omega)) ?_
    rintro v31 w ⟨A1, rfl, hA1, hT⟩; clear E a; intro a E
    have S := S.call1 (zAl (by repeat (first | exact pk1 | apply zAc)) (zAu _)) hT
    have hk1 : ((b.take 5).drop 0).take 1 = b.take 1 := by rw [List.drop_zero, List.take_take]; rfl
    have hkk : zDf (((b.take 5).drop 0).take 1) = zFb b := by rw [hk1]; rfl
    rw [hkk] at E
    obtain ⟨k, hk⟩ : ∃ k, k = zFb b := ⟨_, rfl⟩
    rw [← hk] at E
    have hklt : k < 256 := by rw [hk]; exact kindOf_lt b
    refine zp E (by first | exact zBg E rfl rfl rfl rfl (by first | exact wu8 _ | exact zFe (by omega) | exact zDz (by omega) | exact w_in (by omega) | exact zBw (by omega) | exact rfl) | exact zCi E rfl rfl rfl rfl rfl (by assumption) (S.stab.at (by simp))) ?_; clear E a; intro a E
    refine zp E (zAe E rfl rfl) ?_; clear E a; intro a E
    refine zAp E rfl rfl (by decide) rfl Tryz.func44 rfl (by kernel_rfl) rfl (rnum_fit p (b.take 5) 1 A1 _ hA1 (S.hp.sel (zAl (by repeat (first | exact pk1 | apply zAc)) (zAu _))) 4 (by omega) (by omega) (by omega)) ?_
    rintro v34 w ⟨A2, rfl, hA2, hT⟩; clear E a; intro a E
    have S := S.call1 (zAl (by repeat (first | exact pk1 | apply zAc)) (zAu _)) hT
    have hss : zDf (((b.take 5).drop 1).take 4) = zDc b := by rw [List.drop_take, List.take_take]; rfl
    rw [hss] at E
    obtain ⟨n, hn⟩ : ∃ n, n = zDc b := ⟨_, rfl⟩
    rw [← hn] at E
    have hnlt : n < 4294967296 := by rw [hn]; exact sizeOf_lt b
    refine zp E (by first | exact zBg E rfl rfl rfl rfl (by first | exact wu8 _ | exact zFe (by omega) | exact zDz (by omega) | exact w_in (by omega) | exact zBw (by omega) | exact rfl) | exact zCi E rfl rfl rfl rfl rfl (by assumption) (S.stab.at (by simp))) ?_; clear E a; intro a E
    iterate 2 (refine zp E (zAd E rfl rfl) ?_; clear E a; intro a E)
    refine wpList_nil ?_
    refine zAf hK ?_; clear hK; clear K
    refine wp_seq_k ?_; intro K hK
    refine zAb ?_
    refine zAp E rfl rfl (by decide) rfl Tryz.func25 rfl (by kernel_rfl) rfl (zJk _ _ S.hp) ?_
    rintro v37 w ⟨g, rfl, hT⟩; clear E a; intro a E
    have S := S.all hT
    refine zp E (zAe E rfl rfl) ?_; clear E a; intro a E
    rcases Classical.em (inK (k : Int)) with hin | hin
    · skip
      obtain ⟨ix, hrow⟩ := row_is hin
      refine zp E (zFw (v := .agg [fnv (mayF k), fnv (layF k), fnv (takF k)].toArray) E rfl rfl rfl rfl rfl (S.get (by repeat (first | exact pk1 | apply zAc))) hrow) ?_; clear E a; intro a E
      refine zp E (zAe E rfl rfl) ?_; clear E a; intro a E
      iterate 2 (refine zp E (zBr E rfl rfl rfl) ?_; clear E a; intro a E)
      refine zAo rfl (zBy E S rfl rfl (by decide) rfl rfl rfl ?_); clear E S a; intro a w b12 E S
      refine zAo rfl (zBk E S rfl rfl rfl rfl (by simp [Value.oneCell']) rfl (by repeat (first | exact pk1 | apply zAc)) (by simp) ?_); clear E S a; intro a w E S; simp only [List.take_succ_cons, List.take_zero, List.drop_succ_cons, List.drop_zero, List.cons_append, List.nil_append, List.append_nil, List.length_cons, List.length_nil, Nat.zero_add, Nat.add_zero] at S
      refine zp E (zAd E rfl rfl) ?_; clear E a; intro a E
      refine wpList_nil ?_
      refine zAf hK ?_; clear hK; clear K
      iterate 2 (refine wp_seq_k ?_; intro K hK)
      replace E := E.keep (e' := [(0, _), (3, _), (4, _), (5, _), (6, _), (7, _), (8, _), (10, _), (11, _), (12, _), (13, _)]) (zAa rfl (zAa rfl (zAa rfl (zAa rfl (zAa rfl (zAa rfl (zAa rfl (zAa rfl (zAa rfl (zAa rfl (zAa rfl (zAm))))))))))))
      refine zAb ?_
      refine zp E (zAe E rfl rfl) ?_; clear E a; intro a E
      refine zp E (zDe E rfl rfl) ?_; clear E a; intro a E
      refine zp E (zAe E rfl rfl) ?_; clear E a; intro a E
      refine zJt E (t := 44) rfl ((by rfl)) (fun hb44 => ?_)
      refine zy E hb44 (zAe E rfl rfl) ?_; clear E a; intro a E
      refine zy E hb44 (zDt E rfl rfl rfl) ?_; clear E a; intro a E
      refine zp E (zAi E rfl rfl hb44 rfl) ?_; clear E a; intro a E
      refine wpList_nil ?_
      refine zAf hK ?_; clear hK; clear K
      refine zBh E rfl (fun hb => ?_) (fun hb => ?_)
      · replace hb := Nrm.nrm hb
        refine wp_seq_k ?_; intro K hK
        refine zAb ?_
        refine zp E (zAe E rfl rfl) ?_; clear E a; intro a E
        refine zCy E rfl rfl (by decide) rfl rfl Tryz.func42 rfl (by kernel_rfl) rfl (zGo 200 _ _ S.hp) ?_
        rintro v49 w ⟨rfl, hT⟩; clear E a; intro a E
        have S := S.all hT
        iterate 4 (refine zp E (zBr E rfl rfl rfl) ?_; clear E a; intro a E)
        refine zAo rfl (zBk E S rfl rfl rfl rfl (by simp [Value.oneCell']) rfl (by repeat (first | exact pk1 | apply zAc)) (by simp) ?_); clear E S a; intro a w E S; simp only [List.take_succ_cons, List.take_zero, List.drop_succ_cons, List.drop_zero, List.cons_append, List.nil_append, List.append_nil, List.length_cons, List.length_nil, Nat.zero_add, Nat.add_zero] at S
        refine zp E (zAd E rfl rfl) ?_; clear E a; intro a E
        refine zAo rfl (zBk E S rfl rfl rfl rfl (by simp [Value.oneCell']) rfl (by repeat (first | exact pk1 | apply zAc)) (by simp) ?_); clear E S a; intro a w E S; simp only [List.take_succ_cons, List.take_zero, List.drop_succ_cons, List.drop_zero, List.cons_append, List.nil_append, List.append_nil, List.length_cons, List.length_nil, Nat.zero_add, Nat.add_zero] at S
        refine zp E (zAd E rfl rfl) ?_; clear E a; intro a E
        refine wpList_nil ?_
        refine zAf hK ?_; clear hK; clear K
        refine wp_ret ?_
        refine zAy ?_; clear hK; clear K
        refine zFh E rfl rfl rfl rfl rfl (S.get (by repeat (first | exact pk1 | apply zAc))) rfl (S.get (by repeat (first | exact pk1 | apply zAc))) rfl ?_
        exact ⟨_, rfl, zHy (dec_2 h5 (by rw [← hk, ← hn]; first | exact .inl hin | exact .inr (by omega))) ((St.drops [_, _, _, _, _, _] (S.front1 (A := D) (by repeat (first | exact pk1 | apply zAc)))).addNil.tr)⟩
      · replace hb := Nrm.nrm hb
        refine wp_skip ?_
        refine zAf hK ?_; clear hK; clear K
        refine wp_seq_k ?_; intro K hK
        have hn2 : n ≤ 2048 := by omega
        have S := St.drops [_, _] S
        refine zAb ?_
        refine zp E (zAe E rfl rfl) ?_; clear E a; intro a E
        refine zp E (zBt E rfl rfl rfl (by first | exact wa_lit2 (x := 5) (by omega) | exact w_in (by omega) | exact zBw (by omega) | exact rfl)) ?_; clear E a; intro a E
        refine zp E (zAd E rfl rfl) ?_; clear E a; intro a E
        refine wpList_nil ?_
        refine zAf hK ?_; clear hK; clear K
        iterate 2 (refine wp_seq_k ?_; intro K hK)
        refine zAb ?_
        refine zp E (zAe E rfl rfl) ?_; clear E a; intro a E
        refine zp E (by first | exact zBu E rfl rfl rfl | exact zAx E rfl rfl rfl | exact zAq E rfl rfl rfl) ?_; clear E a; intro a E
        refine zp E (zAe E rfl rfl) ?_; clear E a; intro a E
        refine zp E (zBt E rfl rfl rfl (by first | exact zCh (y := 32) (by omega) | exact w_in (by omega) | exact zBw (by omega) | exact rfl)) ?_; clear E a; intro a E
        refine zp E (zCk E rfl rfl rfl) ?_; clear E a; intro a E
        have hs2 : zDc b ≤ 2048 := by omega
        have hkb : inK (zFb b) := by rw [← hk]; exact hin
        refine wpList_nil ?_
        refine zAf hK ?_; clear hK; clear K
        refine zBh E rfl (fun hb => ?_) (fun hb => ?_)
        · replace hb := Nrm.nrm hb
          refine wp_seq_k ?_; intro K hK
          replace E := E.keep (e' := [(0, _), (3, _), (4, _), (5, _), (6, _), (7, _), (8, _), (10, _), (12, _), (14, _)]) (zAa rfl (zAa rfl (zAa rfl (zAa rfl (zAa rfl (zAa rfl (zAa rfl (zAa rfl (zAa rfl (zAa rfl (zAm)))))))))))
          refine zAb ?_
          refine zp E (zAe E rfl rfl) ?_; clear E a; intro a E
          refine zCy E rfl rfl (by decide) rfl rfl Tryz.func42 rfl (by kernel_rfl) rfl (zGo 10 _ _ S.hp) ?_
          rintro v62 w ⟨rfl, hT⟩; clear E a; intro a E
          have S := S.all hT
          iterate 4 (refine zp E (zBr E rfl rfl rfl) ?_; clear E a; intro a E)
          refine zAo rfl (zBk E S rfl rfl rfl rfl (by simp [Value.oneCell']) rfl (by repeat (first | exact pk1 | apply zAc)) (by simp) ?_); clear E S a; intro a w E S; simp only [List.take_succ_cons, List.take_zero, List.drop_succ_cons, List.drop_zero, List.cons_append, List.nil_append, List.append_nil, List.length_cons, List.length_nil, Nat.zero_add, Nat.add_zero] at S
          refine zp E (zAd E rfl rfl) ?_; clear E a; intro a E
          refine zAo rfl (zBk E S rfl rfl rfl rfl (by simp [Value.oneCell']) rfl (by repeat (first | exact pk1 | apply zAc)) (by simp) ?_); clear E S a; intro a w E S; simp only [List.take_succ_cons, List.take_zero, List.drop_succ_cons, List.drop_zero, List.cons_append, List.nil_append, List.append_nil, List.length_cons, List.length_nil, Nat.zero_add, Nat.add_zero] at S
          refine zp E (zAd E rfl rfl) ?_; clear E a; intro a E
          refine wpList_nil ?_
          refine zAf hK ?_; clear hK; clear K
          refine wp_ret ?_
          refine zAy ?_; clear hK; clear K
          refine zFh E rfl rfl rfl rfl rfl (S.get (by repeat (first | exact pk1 | apply zAc))) rfl (S.get (by repeat (first | exact pk1 | apply zAc))) rfl ?_
          exact ⟨_, rfl, zHy (dec_3 h5 hkb hs2 (by omega)) ((St.drops [_, _, _, _] (S.front1 (A := D) (by repeat (first | exact pk1 | apply zAc)))).addNil.tr)⟩
        · replace hb := Nrm.nrm hb
          refine wp_skip ?_
          refine zAf hK ?_; clear hK; clear K
          refine wp_seq_k ?_; intro K hK
          replace E := E.keep (e' := [(0, _), (3, _), (4, _), (5, _), (6, _), (7, _), (8, _), (10, _), (12, _), (14, _)]) (zAa rfl (zAa rfl (zAa rfl (zAa rfl (zAa rfl (zAa rfl (zAa rfl (zAa rfl (zAa rfl (zAa rfl (zAm)))))))))))
          have h7 : 37 + n ≤ b.length := by omega
          have hto : (b.take (5 + n)).length = 5 + n := by rw [List.length_take]; omega
          obtain ⟨own, hown⟩ : ∃ own, own = shaF (zFa s ++ b.take (5 + n)) := ⟨_, rfl⟩
          have hownD : ownD b s = own := by rw [hown, ownD, ← hn]
          refine zEc (fun (a : Act) (w' : World) => ∃ b15, St w0 (D :: R') w' ([(b15, cel [.int .u64 own.a, .int .u64 own.b, .int .u64 own.c, .int .u64 own.d] 29)] :: [(b12, cel [fnv (mayF k), fnv (layF k), fnv (takF k)] 59)] :: D :: [(b6, cel [.int .u64 0, .int .u64 0, .int .u64 0, .int .u64 0] 29)] :: [(b4, cel [.int .i64 0, str [], .int .i64 0, .int .i64 0, .int .i64 0, .int .i64 0, str [], nilv, .int .i64 0, .int .i64 0, .int .i64 0, nilv, nilv] 26)] :: [(b3, cel [.int .u64 s.a, .int .u64 s.b, .int .u64 s.c, .int .u64 s.d] 29)] :: R') ∧ Fr a 116 [(0, .slice ad b.length c), (4, ptr b4), (6, ptr b6), (8, fnv 42), (10, .int .i64 k), (12, ptr b12), (14, .int .i64 ((5 + n : Nat) : Int)), (15, ptr b15)]) ?_ ?_
          · skip
            refine zDp S (.cons (0, 0) (.cons (1, 0) (.cons (2, 0) (.cons (3, 0) (.cons (4, 0) (.fork 5 (.ofL [(6, 1), (7, 3)]) 6 (.ofL [(5, 1), (7, 3)]))))))) [[(b3, cel [.int .u64 s.a, .int .u64 s.b, .int .u64 s.c, .int .u64 s.d] 29)]] (fun h => h.sub (by first | (simp; done) | (simp +contextual; done) | (simp [*]; done))) (by kernel_rfl) (by kernel_rfl) ?_
            clear S; intro w S
            iterate 3 (refine zm E rfl (fun w h => zAe E rfl rfl) ?_; clear E a; intro a E)
            refine zm E rfl (fun w h => rn_slice_hm (hi := 5 + n) (mx := 5 + n) (s := 1) E rfl rfl rfl rfl rfl rfl rfl rfl (by omega) (by omega)) ?_; clear E a; intro a E
            have hRo := hD.bytes (lo := 0) (hi := 5 + n) (mx := 5 + n) (by omega) (by omega) (by omega)
            rw [List.drop_zero, Nat.sub_zero] at hRo
            refine zm E rfl (fun w h => zBn (vs := [_, _, _, _]) E rfl rfl rfl (h.one (by repeat (first | exact mm1 | assumption | apply List.Mem.tail))) rfl rfl) ?_; clear E a; intro a E
            refine ⟨?_, ?_⟩
            · skip
              refine zCd E rfl rfl rfl (by decide) rfl Tryz.func31 rfl (by kernel_rfl) rfl (over_ret s D _ (b.take (5 + n)) hRo (by omega) _ (by repeat (first | exact mm1 | assumption | apply List.Mem.tail)) (by refine hG.sub fun Q hQ => ?_; rcases List.mem_cons.1 hQ with rfl | hQ; simp; simp [hQ]) _ S.hp) ?_
              rintro v72 w ⟨he, hT⟩; clear E a; intro a E
              have S := S.all hT; rw [← hown] at he; subst he
              refine ⟨S.stab.sub (by first | (simp; done) | (simp +contextual; done) | (simp [*]; done)), ?_⟩
              refine zDm rfl rfl (zBy E S rfl rfl (by decide) rfl rfl rfl ?_); clear E S a; intro a w b15 E S; refine ⟨S.stab.sub (by first | (simp; done) | (simp +contextual; done) | (simp [*]; done)), ?_⟩
              refine zCt rfl rfl (zBk E S rfl rfl rfl rfl (by simp [Value.oneCell']) rfl (by repeat (first | exact pk1 | apply zAc)) (by simp) ?_); clear E S a; intro a w E S; simp only [List.take_succ_cons, List.take_zero, List.drop_succ_cons, List.drop_zero, List.cons_append, List.nil_append, List.append_nil, List.length_cons, List.length_nil, Nat.zero_add, Nat.add_zero] at S
              refine zBz ?_
              refine zAv ?_
              exact ⟨_, S, E.keep (zAa rfl (zAa rfl (zAa rfl (zAa rfl (zAa rfl (zAa rfl (zAa rfl (zAa rfl zAm))))))))⟩
            · skip
              refine zDm rfl rfl (zBy E S rfl rfl (by decide) rfl rfl rfl ?_); clear E S a; intro a w b15 E S; refine ⟨S.stab.sub (by first | (simp; done) | (simp +contextual; done) | (simp [*]; done)), ?_⟩
              refine zCd E rfl rfl rfl (by decide) rfl Tryz.func31 rfl (by kernel_rfl) rfl (over_ret s D _ (b.take (5 + n)) hRo (by omega) _ (by repeat (first | exact mm1 | assumption | apply List.Mem.tail)) (by refine hG.sub fun Q hQ => ?_; rcases List.mem_cons.1 hQ with rfl | hQ; simp; simp [hQ]) _ S.hp) ?_
              rintro v72 w ⟨he, hT⟩; clear E a; intro a E
              have S := S.all hT; rw [← hown] at he; subst he
              refine ⟨S.stab.sub (by first | (simp; done) | (simp +contextual; done) | (simp [*]; done)), ?_⟩
              refine zCt rfl rfl (zBk E S rfl rfl rfl rfl (by simp [Value.oneCell']) rfl (by repeat (first | exact pk1 | apply zAc)) (by simp) ?_); clear E S a; intro a w E S; simp only [List.take_succ_cons, List.take_zero, List.drop_succ_cons, List.drop_zero, List.cons_append, List.nil_append, List.append_nil, List.length_cons, List.length_nil, Nat.zero_add, Nat.add_zero] at S
              refine zBz ?_
              refine zAv ?_
              exact ⟨_, S, E.keep (zAa rfl (zAa rfl (zAa rfl (zAa rfl (zAa rfl (zAa rfl (zAa rfl (zAa rfl zAm))))))))⟩
          · clear E S a; intro a w J; obtain ⟨b15, S, E⟩ := J
            refine zAf hK ?_; clear hK; clear K
            iterate 2 (refine wp_seq_k ?_; intro K hK)
            obtain ⟨fn, q1, q2, q3⟩ := takF_fn hin
            have hRs := hD.bytes (lo := 5 + n) (hi := 37 + n) (mx := c) (by omega) (by omega) (by omega)
            rw [show 37 + n - (5 + n) = 32 by omega] at hRs
            refine zDp S (.ofL [(0, 0), (2, 0), (3, 0), (4, 0), (5, 0), (6, 0), (1, 1), (7, 3), (8, 2)]) [[(b15, cel [.int .u64 own.a, .int .u64 own.b, .int .u64 own.c, .int .u64 own.d] 29)]] (fun h => h.sub (by first | (simp; done) | (simp +contextual; done) | (simp [*]; done))) (by kernel_rfl) (by kernel_rfl) ?_
            clear S; intro w S
            refine zm E rfl (fun w h => zBn (vs := [_, _, _, _]) E rfl rfl rfl (h.one (by repeat (first | exact mm1 | assumption | apply List.Mem.tail))) rfl rfl) ?_; clear E a; intro a E
            iterate 3 (refine zm E rfl (fun w h => zAe E rfl rfl) ?_; clear E a; intro a E)
            refine zm E rfl (fun w h => zBt E rfl rfl rfl (by first | exact zCh (y := 32) (by omega) | exact w_in (by omega) | exact zBw (by omega) | exact rfl)) ?_; clear E a; intro a E
            refine zm E rfl (fun w h => zGi (lo := 5 + n) (hi := 37 + n) (s := 1) E rfl rfl rfl rfl rfl rfl rfl (by omega) (by omega) (by omega)) ?_; clear E a; intro a E
            refine zCd E rfl rfl rfl (by decide) rfl Tryz.func32 rfl (by kernel_rfl) rfl (zIr own _ _ S.hp) ?_
            rintro v74 w ⟨D2, hD2, hT⟩; clear E a; intro a E
            have S := S.all hT
            refine ⟨S.stab.sub (by first | (simp; done) | (simp +contextual; done) | (simp [*]; done)), ?_⟩
            refine zId E rfl rfl rfl (by decide) rfl Tryz.func45 rfl (by kernel_rfl) rfl (equal_ret D2 D _ _ (zFa own) ((b.drop (5 + n)).take 32) (by rw [zDu]; exact hD2.rd) hRs (by rw [zDu]; omega) _ (by repeat (first | exact mm1 | assumption | apply List.Mem.tail)) (by repeat (first | exact mm1 | assumption | apply List.Mem.tail)) _ S.hp) ?_
            rintro v80 w ⟨rfl, hT⟩; clear E a; intro a E
            have S := S.all hT
            refine zDi E rfl rfl rfl (by decide) (fun w => zDe E rfl rfl) ?_; clear E a; intro a E
            refine zBz ?_
            refine zAf hK ?_; clear hK; clear K
            refine zBh E rfl (fun hb => ?_) (fun hb => ?_)
            · replace hb := Nrm.nrm hb
              refine wp_seq_k ?_; intro K hK
              refine zAb ?_
              refine zp E (zAe E rfl rfl) ?_; clear E a; intro a E
              refine zCy E rfl rfl (by decide) rfl rfl Tryz.func42 rfl (by kernel_rfl) rfl (zGo 201 _ _ S.hp) ?_
              rintro v83 w ⟨rfl, hT⟩; clear E a; intro a E
              have S := S.all hT
              iterate 4 (refine zp E (zBr E rfl rfl rfl) ?_; clear E a; intro a E)
              refine zAo rfl (zBk E S rfl rfl rfl rfl (by simp [Value.oneCell']) rfl (by repeat (first | exact pk1 | apply zAc)) (by simp) ?_); clear E S a; intro a w E S; simp only [List.take_succ_cons, List.take_zero, List.drop_succ_cons, List.drop_zero, List.cons_append, List.nil_append, List.append_nil, List.length_cons, List.length_nil, Nat.zero_add, Nat.add_zero] at S
              refine zp E (zAd E rfl rfl) ?_; clear E a; intro a E
              refine zAo rfl (zBk E S rfl rfl rfl rfl (by simp [Value.oneCell']) rfl (by repeat (first | exact pk1 | apply zAc)) (by simp) ?_); clear E S a; intro a w E S; simp only [List.take_succ_cons, List.take_zero, List.drop_succ_cons, List.drop_zero, List.cons_append, List.nil_append, List.append_nil, List.length_cons, List.length_nil, Nat.zero_add, Nat.add_zero] at S
              refine zp E (zAd E rfl rfl) ?_; clear E a; intro a E
              refine wpList_nil ?_
              refine zAf hK ?_; clear hK; clear K
              refine wp_ret ?_
              refine zAy ?_; clear hK; clear K
              refine zFh E rfl rfl rfl rfl rfl (S.get (by repeat (first | exact pk1 | apply zAc))) rfl (S.get (by repeat (first | exact pk1 | apply zAc))) rfl ?_
              exact ⟨_, rfl, zHy (dec_4 h5 hkb hs2 (by omega) (by rw [hownD, ← hn]; simpa using hb)) ((St.drops [_, _, _, _, _, _] (S.front1 (A := D) (by repeat (first | exact pk1 | apply zAc)))).addNil.tr)⟩
            · replace hb := Nrm.nrm hb
              refine wp_skip ?_
              refine zAf hK ?_; clear hK; clear K
              refine wp_seq_k ?_; intro K hK
              have hse : zFa (ownD b s) = (b.drop (5 + zDc b)).take 32 := by rw [hownD, ← hn]; simpa using hb
              obtain ⟨body, hbody⟩ : ∃ body, body = zJe b := ⟨_, rfl⟩
              have hRb := hD.bytes (lo := 5) (hi := 5 + n) (mx := c) (by omega) (by omega) (by omega)
              rw [show 5 + n - 5 = n by omega] at hRb
              have hbe : (b.drop 5).take n = body := by rw [hbody, zJe, ← hn]
              rw [hbe] at hRb
              have hbn : body.length ≤ 2048 := by rw [← hbe, List.length_take]; omega
              refine zAb ?_
              iterate 2 (refine zp E (zAe E rfl rfl) ?_; clear E a; intro a E)
              refine zp E (zGi (lo := 5) (hi := 5 + n) (s := 1) E rfl rfl rfl rfl rfl rfl rfl (by omega) (by omega) (by omega)) ?_; clear E a; intro a E
              refine zAp E rfl rfl (by decide) rfl Tryz.func43 rfl (by kernel_rfl) rfl (zLc D _ body _ hRb (S.hp.sel (zAl (by repeat (first | exact pk1 | apply zAc)) (zAu _))) (by omega)) ?_
              rintro v91 w ⟨p2, B, rfl, hB, hT⟩; clear E a; intro a E
              have S := S.call2 (zAl (by repeat (first | exact pk1 | apply zAc)) (zAu _)) hT
              refine zp E (zAd E rfl rfl) ?_; clear E a; intro a E
              refine wpList_nil ?_
              refine zAf hK ?_; clear hK; clear K
              refine wp_seq_k ?_; intro K hK
              refine zAb ?_
              refine zp E (zAe E rfl rfl) ?_; clear E a; intro a E
              refine zp E (zCv (cells := [_, _, _, _, _, _, _, _, _, _, _, _, _]) E rfl rfl rfl) ?_; clear E a; intro a E
              refine zAo rfl (zBy E S rfl rfl (by decide) rfl rfl rfl ?_); clear E S a; intro a w b17 E S
              refine zAo rfl (zBk E S rfl rfl rfl rfl (by simp [Value.oneCell']) rfl (by repeat (first | exact pk1 | apply zAc)) (by simp) ?_); clear E S a; intro a w E S; simp only [List.take_succ_cons, List.take_zero, List.drop_succ_cons, List.drop_zero, List.cons_append, List.nil_append, List.append_nil, List.length_cons, List.length_nil, Nat.zero_add, Nat.add_zero] at S
              refine wpList_nil ?_
              refine zAf hK ?_; clear hK; clear K
              refine wp_seq_k ?_; intro K hK
              replace E := E.keep (e' := [(4, _), (6, _), (8, _), (12, _), (14, _), (15, _), (16, _), (17, _)]) (zAa rfl (zAa rfl (zAa rfl (zAa rfl (zAa rfl (zAa rfl (zAa rfl (zAa rfl (zAm)))))))))
              refine zAb ?_
              refine zp E (by first | exact zAg (q := 2) E rfl rfl rfl | exact zAh (q := 2) E rfl rfl rfl) ?_; clear E a; intro a E
              refine zp E (by first | exact zAn E rfl rfl rfl (S.get (by repeat (first | exact pk1 | apply zAc))) rfl | exact zAj E rfl rfl rfl (by assumption)) ?_; clear E a; intro a E
              refine zp E (zAe E rfl rfl) ?_; clear E a; intro a E
              refine zCy E rfl rfl (by decide) rfl rfl q1 q2 q3 rfl (takK_ret p2 b17 k ⟨body, 0, 0⟩ B hB _ (S.hp.sel (zAl (by repeat (first | exact pk1 | apply zAc)) (zAl (by repeat (first | exact pk1 | apply zAc)) (zAu _)))) hin) ?_
              rintro v97 w ⟨B2, X, pv, kv, dv, hB2, hX, hT⟩; clear E a; intro a E
              have S := S.call3 (zAl (by repeat (first | exact pk1 | apply zAc)) (zAl (by repeat (first | exact pk1 | apply zAc)) (zAu _))) hT
              refine wpList_nil ?_
              refine zAf hK ?_; clear hK; clear K
              iterate 2 (refine wp_seq_k ?_; intro K hK)
              have hsml := takeK_sml hin ⟨body, 0, 0⟩
              obtain ⟨rec, rd, htk⟩ : ∃ rec rd, zHw k ⟨body, 0, 0⟩ = (rec, rd) := ⟨_, _, rfl⟩
              rw [htk] at hB2 hX S hsml
              dsimp only at hB2 hX S hsml
              obtain ⟨a1, c1, rfl⟩ := hX.rd.pr.slice
              obtain ⟨a2, c2, rfl⟩ := hX.rd.kr.slice
              obtain ⟨a3, c3, rfl⟩ := hX.rd.dr.slice
              refine zAb ?_
              refine zp E (zAe E rfl rfl) ?_; clear E a; intro a E
              refine zAp E rfl rfl (by decide) rfl Tryz.func46 rfl (by kernel_rfl) rfl (rdone_ret p2 rd B2 _ hB2 (S.hp.sel (zAl (by repeat (first | exact pk1 | apply zAc)) (zAu _)))) ?_
              rintro v99 w ⟨rfl, hT⟩; clear E a; intro a E
              have S := S.call1 (zAl (by repeat (first | exact pk1 | apply zAc)) (zAu _)) hT
              refine zp E (by first | exact zDa E rfl rfl rfl | exact zBi E rfl rfl rfl rfl | exact zBs E rfl rfl rfl rfl | exact zBl E rfl rfl rfl) ?_; clear E a; intro a E
              refine zp E (zAe E rfl rfl) ?_; clear E a; intro a E
              refine zAr E (t := 101) rfl (fun hb101 => ?_) (fun hb101 => ?_)
              · have hb101n := hb101; replace hb101n := Nrm.nrm hb101n
                iterate 3 (refine zn E hb101 ?_; clear E a; intro a E)
                refine zp E (zAk E rfl rfl hb101 rfl) ?_; clear E a; intro a E
                refine wpList_nil ?_
                refine zAf hK ?_; clear hK; clear K
                refine zCe E rfl rfl ?_
                refine wp_seq_k ?_; intro K hK
                refine zAb ?_
                refine zp E (zAe E rfl rfl) ?_; clear E a; intro a E
                refine zCy E rfl rfl (by decide) rfl rfl Tryz.func42 rfl (by kernel_rfl) rfl (zGo 200 _ _ S.hp) ?_
                rintro v107 w ⟨rfl, hT⟩; clear E a; intro a E
                have S := S.all hT
                iterate 4 (refine zp E (zBr E rfl rfl rfl) ?_; clear E a; intro a E)
                refine zAo rfl (zBk E S rfl rfl rfl rfl (by simp [Value.oneCell']) rfl (by repeat (first | exact pk1 | apply zAc)) (by simp) ?_); clear E S a; intro a w E S; simp only [List.take_succ_cons, List.take_zero, List.drop_succ_cons, List.drop_zero, List.cons_append, List.nil_append, List.append_nil, List.length_cons, List.length_nil, Nat.zero_add, Nat.add_zero] at S
                refine zp E (zAd E rfl rfl) ?_; clear E a; intro a E
                refine zAo rfl (zBk E S rfl rfl rfl rfl (by simp [Value.oneCell']) rfl (by repeat (first | exact pk1 | apply zAc)) (by simp) ?_); clear E S a; intro a w E S; simp only [List.take_succ_cons, List.take_zero, List.drop_succ_cons, List.drop_zero, List.cons_append, List.nil_append, List.append_nil, List.length_cons, List.length_nil, Nat.zero_add, Nat.add_zero] at S
                refine zp E (zAd E rfl rfl) ?_; clear E a; intro a E
                refine wpList_nil ?_
                refine zAf hK ?_; clear hK; clear K
                refine wp_ret ?_
                refine zAy ?_; clear hK; clear K
                refine zFh E rfl rfl rfl rfl rfl (S.get (by repeat (first | exact pk1 | apply zAc))) rfl (S.get (by repeat (first | exact pk1 | apply zAc))) rfl ?_
                refine ⟨_, rfl, zHy (dec_5 h5 hkb hs2 (by omega) hse ?_) ?_⟩
                · rw [← hk, ← hbody, htk]
                  first
                    | exact .inl (by simp only; omega)
                    | exact .inr (ckE_no hb)
                · exact (St.drops [_, _, _, _, _, _, _, _, _] (S.front1 (A := D) (by repeat (first | exact pk1 | apply zAc)))).addNil.tr
              · have hb101n := hb101; replace hb101n := Nrm.nrm hb101n
                refine zy E hb101 (zBn (vs := [_, _, _, _, _, _, _, _, _, _, _, _, _]) E rfl rfl rfl (S.get (by repeat (first | exact pk1 | apply zAc))) rfl rfl) ?_; clear E a; intro a E
                refine zBx E rfl rfl rfl rfl hb101 ?_; refine zCo E rfl (by decide) rfl Tryz.func11 rfl (by kernel_rfl) rfl (zIk hX.rd hsml (by repeat (first | exact mm1 | assumption | apply List.Mem.tail)) _ S.hp) ?_
                rintro v103 w ⟨rfl, hT⟩; clear E a; intro a E
                have S := S.all hT
                refine zy E hb101 (by first | exact zDa E rfl rfl rfl | exact zBi E rfl rfl rfl rfl | exact zBs E rfl rfl rfl rfl | exact zBl E rfl rfl rfl) ?_; clear E a; intro a E
                refine zp E (zAi E rfl rfl hb101 rfl) ?_; clear E a; intro a E
                refine wpList_nil ?_
                refine zAf hK ?_; clear hK; clear K
                refine zBh E rfl (fun hb => ?_) (fun hb => ?_)
                · replace hb := Nrm.nrm hb
                  refine wp_seq_k ?_; intro K hK
                  refine zAb ?_
                  refine zp E (zAe E rfl rfl) ?_; clear E a; intro a E
                  refine zCy E rfl rfl (by decide) rfl rfl Tryz.func42 rfl (by kernel_rfl) rfl (zGo 200 _ _ S.hp) ?_
                  rintro v107 w ⟨rfl, hT⟩; clear E a; intro a E
                  have S := S.all hT
                  iterate 4 (refine zp E (zBr E rfl rfl rfl) ?_; clear E a; intro a E)
                  refine zAo rfl (zBk E S rfl rfl rfl rfl (by simp [Value.oneCell']) rfl (by repeat (first | exact pk1 | apply zAc)) (by simp) ?_); clear E S a; intro a w E S; simp only [List.take_succ_cons, List.take_zero, List.drop_succ_cons, List.drop_zero, List.cons_append, List.nil_append, List.append_nil, List.length_cons, List.length_nil, Nat.zero_add, Nat.add_zero] at S
                  refine zp E (zAd E rfl rfl) ?_; clear E a; intro a E
                  refine zAo rfl (zBk E S rfl rfl rfl rfl (by simp [Value.oneCell']) rfl (by repeat (first | exact pk1 | apply zAc)) (by simp) ?_); clear E S a; intro a w E S; simp only [List.take_succ_cons, List.take_zero, List.drop_succ_cons, List.drop_zero, List.cons_append, List.nil_append, List.append_nil, List.length_cons, List.length_nil, Nat.zero_add, Nat.add_zero] at S
                  refine zp E (zAd E rfl rfl) ?_; clear E a; intro a E
                  refine wpList_nil ?_
                  refine zAf hK ?_; clear hK; clear K
                  refine wp_ret ?_
                  refine zAy ?_; clear hK; clear K
                  refine zFh E rfl rfl rfl rfl rfl (S.get (by repeat (first | exact pk1 | apply zAc))) rfl (S.get (by repeat (first | exact pk1 | apply zAc))) rfl ?_
                  refine ⟨_, rfl, zHy (dec_5 h5 hkb hs2 (by omega) hse ?_) ?_⟩
                  · rw [← hk, ← hbody, htk]
                    first
                      | exact .inl (by simp only; omega)
                      | exact .inr (ckE_no hb)
                  · exact (St.drops [_, _, _, _, _, _, _, _, _] (S.front1 (A := D) (by repeat (first | exact pk1 | apply zAc)))).addNil.tr
                · replace hb := Nrm.nrm hb
                  refine wp_skip ?_
                  refine zAf hK ?_; clear hK; clear K
                  refine wp_seq_k ?_; intro K hK
                  rw [show rec.cells (.slice a1 rec.props.length c1) (.slice a2 rec.keep.length c2) (.slice a3 rec.data.length c3) = [.int .i64 rec.kind, str rec.name, .int .i64 rec.typ, .int .i64 rec.frm, .int .i64 rec.guid, .int .i64 rec.origin, str rec.snap, .slice a1 rec.props.length c1, .int .i64 rec.object, .int .i64 rec.at_, .int .i64 rec.many, .slice a2 rec.keep.length c2, .slice a3 rec.data.length c3] from rfl] at S
                  refine zDp S (.ofL [(0, 0), (1, 0), (2, 0), (3, 0), (4, 1), (5, 0), (6, 3), (7, 2)]) [[(b17, cel [.int .i64 rec.kind, str rec.name, .int .i64 rec.typ, .int .i64 rec.frm, .int .i64 rec.guid, .int .i64 rec.origin, str rec.snap, .slice a1 rec.props.length c1, .int .i64 rec.object, .int .i64 rec.at_, .int .i64 rec.many, .slice a2 rec.keep.length c2, .slice a3 rec.data.length c3] 26)], [(b15, cel [.int .u64 own.a, .int .u64 own.b, .int .u64 own.c, .int .u64 own.d] 29)]] (fun h => h.sub (by first | (simp; done) | (simp +contextual; done) | (simp [*]; done))) (by kernel_rfl) (by kernel_rfl) ?_
                  clear S; intro w S
                  refine zm E rfl (fun w h => zBn (vs := [_, _, _, _, _, _, _, _, _, _, _, _, _]) E rfl rfl rfl (h.one (by repeat (first | exact mm1 | assumption | apply List.Mem.tail))) rfl rfl) ?_; clear E a; intro a E
                  refine zm E rfl (fun w h => zAe E rfl rfl) ?_; clear E a; intro a E
                  refine zm E rfl (fun w h => zBt E rfl rfl rfl (by first | exact zCh (y := 32) (by omega) | exact w_in (by omega) | exact zBw (by omega) | exact rfl)) ?_; clear E a; intro a E
                  refine zm E rfl (fun w h => zBn (vs := [_, _, _, _]) E rfl rfl rfl (h.one (by repeat (first | exact mm1 | assumption | apply List.Mem.tail))) rfl rfl) ?_; clear E a; intro a E
                  refine zDm rfl rfl (zBk E S rfl rfl rfl rfl (by simp [Value.oneCell']) rfl (by repeat (first | exact pk1 | apply zAc)) (by simp) ?_); clear E S a; intro a w E S; simp only [List.take_succ_cons, List.take_zero, List.drop_succ_cons, List.drop_zero, List.cons_append, List.nil_append, List.append_nil, List.length_cons, List.length_nil, Nat.zero_add, Nat.add_zero] at S; refine ⟨S.stab.sub (by first | (simp; done) | (simp +contextual; done) | (simp [*]; done)), ?_⟩
                  refine zm E rfl (fun w h => zAd E rfl rfl) ?_; clear E a; intro a E
                  refine zCt rfl rfl (zBk E S rfl rfl rfl rfl (by simp [Value.oneCell']) rfl (by repeat (first | exact pk1 | apply zAc)) (by simp) ?_); clear E S a; intro a w E S; simp only [List.take_succ_cons, List.take_zero, List.drop_succ_cons, List.drop_zero, List.cons_append, List.nil_append, List.append_nil, List.length_cons, List.length_nil, Nat.zero_add, Nat.add_zero] at S
                  refine zDi E rfl rfl rfl (by decide) (fun w => zAd E rfl rfl) ?_; clear E a; intro a E
                  refine zBz ?_
                  refine zAf hK ?_; clear hK; clear K
                  refine wp_ret ?_
                  refine zFh E rfl rfl rfl rfl rfl (S.get (by repeat (first | exact pk1 | apply zAc))) rfl (S.get (by repeat (first | exact pk1 | apply zAc))) rfl ?_
                  refine ⟨_, rfl, ?_⟩
                  show decP (decR b s) (D :: R') w0 _ _
                  rw [dec_6 h5 hkb hs2 (by omega) hse (by rw [← hk, ← hbody, htk]; simp only; omega) (by rw [← hk, ← hbody, htk]; exact ckE_yes hb), hownD, ← hn, ← hk, ← hbody, htk]
                  rw [show 5 + n + 32 = 37 + n by omega]
                  exact ⟨X, _, _, _, rfl, hX, (St.drops2 [_, _, _, _, _, _, _, _] (S.front2 (A := X) (B := D) (by repeat (first | exact pk1 | apply zAc)) (by repeat (first | exact pk1 | apply zAc)))).tr⟩
    · skip
      refine zp E (zFg E rfl rfl rfl rfl rfl rfl rfl (S.get (by repeat (first | exact pk1 | apply zAc))) (row_not hin)) ?_; clear E a; intro a E
      refine zp E (zAe E rfl rfl) ?_; clear E a; intro a E
      iterate 2 (refine zp E (zBr E rfl rfl rfl) ?_; clear E a; intro a E)
      refine zAo rfl (zBy E S rfl rfl (by decide) rfl rfl rfl ?_); clear E S a; intro a w b12 E S
      refine zAo rfl (zBk E S rfl rfl rfl rfl (by simp [Value.oneCell']) rfl (by repeat (first | exact pk1 | apply zAc)) (by simp) ?_); clear E S a; intro a w E S; simp only [List.take_succ_cons, List.take_zero, List.drop_succ_cons, List.drop_zero, List.cons_append, List.nil_append, List.append_nil, List.length_cons, List.length_nil, Nat.zero_add, Nat.add_zero] at S
      refine zp E (zAd E rfl rfl) ?_; clear E a; intro a E
      refine wpList_nil ?_
      refine zAf hK ?_; clear hK; clear K
      iterate 2 (refine wp_seq_k ?_; intro K hK)
      replace E := E.keep (e' := [(0, _), (3, _), (4, _), (5, _), (6, _), (7, _), (8, _), (10, _), (11, _), (12, _), (13, _)]) (zAa rfl (zAa rfl (zAa rfl (zAa rfl (zAa rfl (zAa rfl (zAa rfl (zAa rfl (zAa rfl (zAa rfl (zAa rfl (zAm))))))))))))
      refine zAb ?_
      refine zp E (zAe E rfl rfl) ?_; clear E a; intro a E
      refine zp E (zDe E rfl rfl) ?_; clear E a; intro a E
      refine zp E (zAe E rfl rfl) ?_; clear E a; intro a E
      refine zCx E (t := 44) rfl ((by rfl)) (fun hb44 => ?_)
      iterate 2 (refine zn E hb44 ?_; clear E a; intro a E)
      refine zp E (zAk E rfl rfl hb44 rfl) ?_; clear E a; intro a E
      refine wpList_nil ?_
      refine zAf hK ?_; clear hK; clear K
      refine zCe E rfl rfl ?_
      refine wp_seq_k ?_; intro K hK
      refine zAb ?_
      refine zp E (zAe E rfl rfl) ?_; clear E a; intro a E
      refine zCy E rfl rfl (by decide) rfl rfl Tryz.func42 rfl (by kernel_rfl) rfl (zGo 200 _ _ S.hp) ?_
      rintro v49 w ⟨rfl, hT⟩; clear E a; intro a E
      have S := S.all hT
      iterate 4 (refine zp E (zBr E rfl rfl rfl) ?_; clear E a; intro a E)
      refine zAo rfl (zBk E S rfl rfl rfl rfl (by simp [Value.oneCell']) rfl (by repeat (first | exact pk1 | apply zAc)) (by simp) ?_); clear E S a; intro a w E S; simp only [List.take_succ_cons, List.take_zero, List.drop_succ_cons, List.drop_zero, List.cons_append, List.nil_append, List.append_nil, List.length_cons, List.length_nil, Nat.zero_add, Nat.add_zero] at S
      refine zp E (zAd E rfl rfl) ?_; clear E a; intro a E
      refine zAo rfl (zBk E S rfl rfl rfl rfl (by simp [Value.oneCell']) rfl (by repeat (first | exact pk1 | apply zAc)) (by simp) ?_); clear E S a; intro a w E S; simp only [List.take_succ_cons, List.take_zero, List.drop_succ_cons, List.drop_zero, List.cons_append, List.nil_append, List.append_nil, List.length_cons, List.length_nil, Nat.zero_add, Nat.add_zero] at S
      refine zp E (zAd E rfl rfl) ?_; clear E a; intro a E
      refine wpList_nil ?_
      refine zAf hK ?_; clear hK; clear K
      refine wp_ret ?_
      refine zAy ?_; clear hK; clear K
      refine zFh E rfl rfl rfl rfl rfl (S.get (by repeat (first | exact pk1 | apply zAc))) rfl (S.get (by repeat (first | exact pk1 | apply zAc))) rfl ?_
      exact ⟨_, rfl, zHy (dec_2 h5 (by rw [← hk, ← hn]; first | exact .inl hin | exact .inr (by omega))) ((St.drops [_, _, _, _, _, _] (S.front1 (A := D) (by repeat (first | exact pk1 | apply zAc)))).addNil.tr)⟩
end Go.Proofs.YtbogecljkaimdaaGreatDoor
namespace Go.Sl
set_option maxRecDepth 10000
structure Rdr.At (s : Rdr) (t : List UInt8) : Prop where
  e : s.e = 0
  le : s.at_ ≤ s.bs.length
  eq : s.bs.drop s.at_ = t
theorem Rdr.At.len {s : Rdr} {t : List UInt8} (h : s.At t) : s.at_ + t.length = s.bs.length := by
  have := congrArg List.length h.eq
  rw [List.length_drop] at this
  have := h.le
  omega
theorem Rdr.At.step {s : Rdr} {x t : List UInt8} (h : s.At (x ++ t)) {n : Nat} (hn : n = x.length) : s.cut n 0 = x ∧ (Rdr.mk s.bs (s.at_ + n) s.e).At t := by
  subst hn
  have hl := h.len
  rw [List.length_append] at hl
  refine ⟨?_, h.e, by simp only; omega, ?_⟩
  · rw [Rdr.cut, Nat.add_zero, h.eq]; simp
  · simp only; rw [← List.drop_drop, h.eq]; simp
theorem zHj {s : Rdr} {n k : Nat} {t : List UInt8} (h : s.At (zBv n k ++ t)) (h1 : 1 ≤ k) (h8 : k ≤ 8) (hn : n < 256 ^ k) : (s.num k).1 = n ∧ (s.num k).2.At t := by
  have hl := h.len
  rw [List.length_append, zBc] at hl
  obtain ⟨q1, q2⟩ := h.step (n := k) (by rw [zBc])
  have hv : s.num k = (zDf (s.cut k 0), { s with at_ := s.at_ + k }) := by
    simp [Rdr.num, h.e, show ¬ ((k : Int) < 1 ∨ 8 < (k : Int)) by omega, show ¬ s.bs.length < s.at_ + k by omega]
  rw [hv, q1, zGl hn]
  exact ⟨rfl, q2⟩
theorem zHb {s : Rdr} {x t : List UInt8} {m : Int} (h : s.At (txt x ++ t)) (hm : (x.length : Int) ≤ m) (hx : x.length < 65536) : (s.text m).1 = x ∧ (s.text m).2.At t := by
  have hl := h.len
  rw [List.length_append, zCr] at hl
  rw [txt, List.append_assoc] at h
  obtain ⟨q1, q2⟩ := h.step (n := 2) (by rw [zBc])
  obtain ⟨q3, q4⟩ := q2.step (n := x.length) rfl
  have hnum : zDf (s.cut 2 0) = x.length := by rw [q1]; exact zGl hx
  have hcut : s.cut x.length 2 = x := by
    have : (Rdr.mk s.bs (s.at_ + 2) s.e).cut x.length 0 = s.cut x.length 2 := by simp [Rdr.cut]
    rw [← this, q3]
  have hv : s.text m = (x, { s with at_ := s.at_ + (2 + x.length) }) := by
    unfold Rdr.text
    rw [if_neg (by simp [h.e]), if_neg (by omega), hnum, if_neg (by omega), if_neg (by omega), hcut]
  rw [hv]
  refine ⟨rfl, ?_⟩
  have q5 := q4
  simp only [Nat.add_assoc] at q5
  exact q5
theorem bytes_read {s : Rdr} {x t : List UInt8} (h : s.At (x ++ t)) : (s.bytes x.length).1 = x ∧ (s.bytes x.length).2.At t := by
  have hl := h.len
  rw [List.length_append] at hl
  obtain ⟨q1, q2⟩ := h.step (n := x.length) rfl
  have hv : s.bytes x.length = (x, { s with at_ := s.at_ + x.length }) := by
    unfold Rdr.bytes
    rw [if_neg (by simp [h.e]), if_neg (by omega), Int.toNat_natCast, if_neg (by omega), q1]
  rw [hv]
  exact ⟨rfl, q2⟩
theorem done_read {s : Rdr} (h : s.At []) : s.done = 0 := by
  have := h.len
  simp only [List.length_nil] at this
  have h2 : ¬ s.at_ < s.bs.length := by omega
  simp only [Rdr.done, h.e, h2, and_false, if_false]
theorem at_start (b : List UInt8) : (Rdr.mk b 0 0).At b := ⟨rfl, Nat.zero_le _, rfl⟩
theorem keepS_read {size : Nat} {more : Int} (h1 : 1 ≤ size) (h8 : size ≤ 8) {l : List Int} (hb : ∀ n ∈ l, 0 ≤ n + more ∧ n + more < 256 ^ size) {s : Rdr} {t : List UInt8} (h : s.At (zFk l size more ++ t)) :
    ∀ i, i ≤ l.length → (zHo size more s i).1 = l.take i ∧ (zHo size more s i).2.At (zFk (l.drop i) size more ++ t) := by
  intro i
  induction i with
  | zero => intro _; exact ⟨rfl, by rw [List.drop_zero]; exact h⟩
  | succ i ih =>
    intro hi
    obtain ⟨q1, q2⟩ := ih (by omega)
    have hil : i < l.length := by omega
    rw [List.drop_eq_getElem_cons hil] at q2
    have hc : zFk (l[i] :: l.drop (i + 1)) size more = zBv (l[i] + more).toNat size ++ zFk (l.drop (i + 1)) size more := rfl
    rw [hc, List.append_assoc] at q2
    have hbi := hb _ (List.getElem_mem hil)
    obtain ⟨r1, r2⟩ := zHj q2 h1 h8 (by
      have h0 := hbi.1
      exact (Int.toNat_lt h0).2 (by exact_mod_cast hbi.2))
    refine ⟨?_, r2⟩
    rw [zHo]
    simp only
    rw [r1, q1, ← List.take_append_getElem hil]
    congr 2
    have := hbi.1
    omega
theorem zLi {size : Nat} {more : Int} (h1 : 1 ≤ size) (h8 : size ≤ 8) {l : List Int} (hl : l.length ≤ 240) (hb : ∀ n ∈ l, 0 ≤ n + more ∧ n + more < 256 ^ size) {s : Rdr} {t : List UInt8} (h : s.At (zBv l.length 2 ++ (zFk l size more ++ t))) :
    (zHa s size more).1 = l ∧ (zHa s size more).2.At t := by
  obtain ⟨r1, r2⟩ := zHj h (by omega) (by omega) (by omega)
  have := keepS_read h1 h8 hb r2 l.length (Nat.le_refl _)
  rw [List.take_length, List.drop_length] at this
  rw [zHa]
  have e2 : ((s.num ((2 : Nat) : Int)).1) = (s.num 2).1 := rfl
  rw [e2] at r1
  rw [r1, Nat.min_eq_left (by omega)]
  exact ⟨this.1, this.2⟩
theorem prpS_read {l : List Prp} (hb : ∀ p ∈ l, p.name.length ≤ 24 ∧ p.value.length ≤ 64) {s : Rdr} {t : List UInt8} (h : s.At (zEs l ++ t)) :
    ∀ i, i ≤ l.length → (prpS s i).1 = l.take i ∧ (prpS s i).2.At (zEs (l.drop i) ++ t) := by
  intro i
  induction i with
  | zero => intro _; exact ⟨rfl, by rw [List.drop_zero]; exact h⟩
  | succ i ih =>
    intro hi
    obtain ⟨q1, q2⟩ := ih (by omega)
    have hil : i < l.length := by omega
    rw [List.drop_eq_getElem_cons hil] at q2
    have hc : zEs (l[i] :: l.drop (i + 1)) = (txt l[i].name ++ txt l[i].value) ++ zEs (l.drop (i + 1)) := rfl
    rw [hc, List.append_assoc, List.append_assoc] at q2
    have hbi := hb _ (List.getElem_mem hil)
    obtain ⟨r1, r2⟩ := zHb (m := 24) q2 (by omega) (by omega)
    obtain ⟨r3, r4⟩ := zHb (m := 64) r2 (by omega) (by omega)
    refine ⟨?_, r4⟩
    rw [prpS]
    simp only
    rw [r1, r3, q1, ← List.take_append_getElem hil]
theorem only1 {r : Rec} (h : r.kind = 1) (he : zCs (zDr r) = true) : r = { zDo 1 with name := r.name, many := r.many } := by
  rw [bare1 h] at he
  simp only [zCs, Bool.and_eq_true, decide_eq_true_eq] at he
  obtain ⟨kind, name, typ, frm, guid, origin, snap, props, object, at_, many, keep, data⟩ := r
  simp only at *
  simp only [zDo, Rec.mk.injEq]
  have h3 := he.2.2.2.2.2.2.2.2.2
  have p1 := List.length_eq_zero_iff.1 (show props.length = 0 by omega)
  have p2 := List.length_eq_zero_iff.1 (show keep.length = 0 by omega)
  have p3 := List.length_eq_zero_iff.1 (show data.length = 0 by omega)
  simp_all
theorem only2 {r : Rec} {k : Int} (h : r.kind = k) (hb : zDr r = { r with name := [], typ := 0, frm := 0, guid := 0, origin := 0, snap := [], props := [] }) (he : zCs (zDr r) = true) : r = { zDo k with name := r.name, typ := r.typ, frm := r.frm, guid := r.guid, origin := r.origin, snap := r.snap, props := r.props } := by
  rw [hb] at he
  simp only [zCs, Bool.and_eq_true, decide_eq_true_eq] at he
  obtain ⟨kind, name, typ, frm, guid, origin, snap, props, object, at_, many, keep, data⟩ := r
  simp only at *
  simp only [zDo, Rec.mk.injEq]
  have h3 := he.2.2.2.2.2.2.2.2.2
  simp only [List.length_nil] at h3
  have p2 := List.length_eq_zero_iff.1 (show keep.length = 0 by omega)
  have p3 := List.length_eq_zero_iff.1 (show data.length = 0 by omega)
  simp_all
theorem only3 {r : Rec} {k : Int} (h : r.kind = k) (hb : zDr r = { r with keep := [] }) (he : zCs (zDr r) = true) : r = { zDo k with keep := r.keep } := by
  rw [hb] at he
  simp only [zCs, Bool.and_eq_true, decide_eq_true_eq] at he
  obtain ⟨kind, name, typ, frm, guid, origin, snap, props, object, at_, many, keep, data⟩ := r
  simp only at *
  simp only [zDo, Rec.mk.injEq]
  have h3 := he.2.2.2.2.2.2.2.2.2
  simp only [List.length_nil] at h3
  have p1 := List.length_eq_zero_iff.1 (show props.length = 0 by omega)
  have p3 := List.length_eq_zero_iff.1 (show data.length = 0 by omega)
  simp_all
theorem only4 {r : Rec} {k : Int} (h : r.kind = k) (hb : zDr r = { r with object := 0, keep := [] }) (he : zCs (zDr r) = true) : r = { zDo k with object := r.object, keep := r.keep } := by
  rw [hb] at he
  simp only [zCs, Bool.and_eq_true, decide_eq_true_eq] at he
  obtain ⟨kind, name, typ, frm, guid, origin, snap, props, object, at_, many, keep, data⟩ := r
  simp only at *
  simp only [zDo, Rec.mk.injEq]
  have h3 := he.2.2.2.2.2.2.2.2.2
  simp only [List.length_nil] at h3
  have p1 := List.length_eq_zero_iff.1 (show props.length = 0 by omega)
  have p3 := List.length_eq_zero_iff.1 (show data.length = 0 by omega)
  simp_all
theorem only5 {r : Rec} {k : Int} (h : r.kind = k) (hb : zDr r = { r with object := 0, at_ := 0, data := [] }) (he : zCs (zDr r) = true) : r = { zDo k with object := r.object, at_ := r.at_, data := r.data } := by
  rw [hb] at he
  simp only [zCs, Bool.and_eq_true, decide_eq_true_eq] at he
  obtain ⟨kind, name, typ, frm, guid, origin, snap, props, object, at_, many, keep, data⟩ := r
  simp only at *
  simp only [zDo, Rec.mk.injEq]
  have h3 := he.2.2.2.2.2.2.2.2.2
  simp only [List.length_nil] at h3
  have p1 := List.length_eq_zero_iff.1 (show props.length = 0 by omega)
  have p2 := List.length_eq_zero_iff.1 (show keep.length = 0 by omega)
  simp_all
theorem only6 {r : Rec} {k : Int} (h : r.kind = k) (hb : zDr r = { r with many := 0 }) (he : zCs (zDr r) = true) : r = { zDo k with many := r.many } := by
  rw [hb] at he
  simp only [zCs, Bool.and_eq_true, decide_eq_true_eq] at he
  obtain ⟨kind, name, typ, frm, guid, origin, snap, props, object, at_, many, keep, data⟩ := r
  simp only at *
  simp only [zDo, Rec.mk.injEq]
  have h3 := he.2.2.2.2.2.2.2.2.2
  have p1 := List.length_eq_zero_iff.1 (show props.length = 0 by omega)
  have p2 := List.length_eq_zero_iff.1 (show keep.length = 0 by omega)
  have p3 := List.length_eq_zero_iff.1 (show data.length = 0 by omega)
  simp_all
end Go.Sl
namespace Go.Proofs.YtbogecljkaimdaaGreatDoor
open Go.Sl
set_option maxRecDepth 10000
theorem ckB_all {r : Rec} (h : ckB r = true) : inK r.kind ∧ mayK r.kind r = true ∧ zCs (zDr r) = true := by
  simp only [ckB, Bool.and_eq_true, decide_eq_true_eq] at h
  exact ⟨h.1, h.2.1, h.2.2⟩
theorem nrd1 {s : Rdr} {n : Nat} {t : List UInt8} (h : s.At (zBv n 1 ++ t)) (hn : n < 256) : (s.num 1).1 = n ∧ (s.num 1).2.At t := zHj (k := 1) h (by omega) (by omega) (by omega)
theorem nrd2 {s : Rdr} {n : Nat} {t : List UInt8} (h : s.At (zBv n 2 ++ t)) (hn : n < 65536) : (s.num 2).1 = n ∧ (s.num 2).2.At t := zHj (k := 2) h (by omega) (by omega) (by omega)
theorem nrd4 {s : Rdr} {n : Nat} {t : List UInt8} (h : s.At (zBv n 4 ++ t)) (hn : n < 4294967296) : (s.num 4).1 = n ∧ (s.num 4).2.At t := zHj (k := 4) h (by omega) (by omega) (by omega)
theorem nrd6 {s : Rdr} {n : Nat} {t : List UInt8} (h : s.At (zBv n 6 ++ t)) (hn : n < 281474976710656) : (s.num 6).1 = n ∧ (s.num 6).2.At t := zHj (k := 6) h (by omega) (by omega) (by omega)
theorem at_nil {s : Rdr} {b : List UInt8} (h : s.At b) : s.At (b ++ []) := by rwa [List.append_nil]
theorem take1_read {r : Rec} (hk : r.kind = 1) (h : may1 r = true) (he : zCs (zDr r) = true) {s : Rdr} (h0 : s.At (body1 r)) : (take1 1 s).1 = r ∧ (take1 1 s).2.At [] := by
  have hn := zJl h
  rw [body1] at h0
  obtain ⟨a1, a2⟩ := zHb (m := 24) h0 (by omega) (by omega)
  obtain ⟨b1, b2⟩ := nrd2 (at_nil a2) (by omega)
  refine ⟨?_, b2⟩
  conv => rhs; rw [only1 hk he]
  show ({ zDo 1 with name := (s.text 24).1, many := (((s.text 24).2.num 2).1 : Int) } : Rec) = _
  rw [a1, b1, Int.toNat_of_nonneg (by omega)]
theorem take3_read {r : Rec} (hk : r.kind = 3) (h : may3 r = true) (he : zCs (zDr r) = true) {s : Rdr} (h0 : s.At (body3 r)) : (take3 3 s).1 = r ∧ (take3 3 s).2.At [] := by
  have hn := zGy (l := r.keep) h
  rw [body3] at h0
  obtain ⟨a1, a2⟩ := zLi (size := 4) (more := 0) (l := r.keep) (t := []) (by omega) (by omega) hn.1 (fun n hq => by have := hn.2 n hq; omega) (by rw [List.append_nil]; exact h0)
  refine ⟨?_, a2⟩
  conv => rhs; rw [only3 hk (bare3 hk) he]
  show ({ zDo 3 with keep := (zHa s 4 0).1 } : Rec) = _
  rw [a1]
theorem take4_read {r : Rec} (hk : r.kind = 4) (h : may4 r = true) (he : zCs (zDr r) = true) {s : Rdr} (h0 : s.At (body4 r)) : (take4 4 s).1 = r ∧ (take4 4 s).2.At [] := by
  simp only [may4, Bool.and_eq_true, decide_eq_true_eq] at h
  have hn := zGy (l := r.keep) h.2.2
  rw [body4] at h0
  obtain ⟨b1, b2⟩ := nrd4 h0 (by omega)
  obtain ⟨a1, a2⟩ := zLi (size := 2) (more := 1) (l := r.keep) (t := []) (by omega) (by omega) hn.1 (fun n hq => by have := hn.2 n hq; omega) (by rw [List.append_nil]; exact b2)
  refine ⟨?_, a2⟩
  conv => rhs; rw [only4 hk (bare4 hk) he]
  show ({ zDo 4 with object := ((s.num 4).1 : Int), keep := (zHa (s.num 4).2 2 1).1 } : Rec) = _
  rw [a1, b1, Int.toNat_of_nonneg (by omega)]
theorem take5_read {r : Rec} (hk : r.kind = 5) (h : may5 r = true) (he : zCs (zDr r) = true) {s : Rdr} (h0 : s.At (body5 r)) : (take5 5 s).1 = r ∧ (take5 5 s).2.At [] := by
  simp only [may5, Bool.and_eq_true, decide_eq_true_eq] at h
  rw [body5] at h0
  obtain ⟨a1, a2⟩ := nrd4 h0 (by omega)
  obtain ⟨b1, b2⟩ := nrd2 a2 (by omega)
  obtain ⟨c1, c2⟩ := nrd2 b2 (by omega)
  obtain ⟨d1, d2⟩ := bytes_read (at_nil c2)
  have e : (((s.num 4).2.num 2).2.num 2).2.bytes ((((s.num 4).2.num 2).2.num 2).1 : Int) = (((s.num 4).2.num 2).2.num 2).2.bytes (r.data.length : Int) := by rw [c1]
  refine ⟨?_, ?_⟩
  · conv => rhs; rw [only5 hk (bare5 hk) he]
    show ({ zDo 5 with object := ((s.num 4).1 : Int), at_ := (((s.num 4).2.num 2).1 : Int) - 1, data := ((((s.num 4).2.num 2).2.num 2).2.bytes ((((s.num 4).2.num 2).2.num 2).1 : Int)).1 } : Rec) = _
    rw [e, d1, a1, b1, Int.toNat_of_nonneg (by omega), Int.toNat_of_nonneg (by omega), Int.add_sub_cancel]
  · show ((((s.num 4).2.num 2).2.num 2).2.bytes ((((s.num 4).2.num 2).2.num 2).1 : Int)).2.At []
    rw [e]; exact d2
theorem zLj {r : Rec} {k : Int} (hk : r.kind = k) (hb : zDr r = { r with many := 0 }) (h : may6 r = true) (he : zCs (zDr r) = true) {s : Rdr} (h0 : s.At (body6 r)) : (take6 k s).1 = r ∧ (take6 k s).2.At [] := by
  simp only [may6, decide_eq_true_eq] at h
  rw [body6] at h0
  obtain ⟨a1, a2⟩ := nrd4 (at_nil h0) (by omega)
  refine ⟨?_, a2⟩
  conv => rhs; rw [only6 hk hb he]
  show ({ zDo k with many := ((s.num 4).1 : Int) } : Rec) = _
  rw [a1, Int.toNat_of_nonneg (by omega)]
theorem take2_read {r : Rec} (hk : r.kind = 2) (h : begB r = true) (he : zCs (zDr r) = true) {s : Rdr} (h0 : s.At (body2 r)) : (zKw 2 s).1 = r ∧ (zKw 2 s).2.At [] := by
  obtain ⟨q1, q2, q3, q4, q5, q6, q7⟩ := (zDw r).1 h
  have h1 := beh_len q1
  have h2 := zHh q6
  have h3 := zJm q7
  rw [body2] at h0
  obtain ⟨a1, a2⟩ := zHb (m := 240) h0 (by omega) (by omega)
  obtain ⟨b1, b2⟩ := nrd1 a2 (by omega)
  obtain ⟨c1, c2⟩ := nrd6 b2 (by omega)
  obtain ⟨d1, d2⟩ := nrd6 c2 (by omega)
  obtain ⟨e1, e2⟩ := nrd1 d2 (by omega)
  obtain ⟨f1, f2⟩ := zHb (m := 24) e2 (by omega) (by omega)
  obtain ⟨g1, g2⟩ := nrd1 f2 (by omega)
  have hp := prpS_read h3.2 (at_nil g2) r.props.length (Nat.le_refl _)
  rw [List.take_length, List.drop_length] at hp
  unfold zKw
  extract_lets n a b c d t m p
  have e : p = prpS m.2 r.props.length := by show prpS m.2 m.1 = _; rw [show m.1 = r.props.length from g1]
  have hp1 : p.1 = r.props := by rw [e]; exact hp.1
  have hp2 : p.2.At [] := by rw [e]; exact hp.2
  refine ⟨?_, hp2⟩
  conv => rhs; rw [only2 hk (bare2 hk) he]
  have a1 : n.1 = r.name := a1
  have b1 : a.1 = r.typ.toNat := b1
  have c1 : b.1 = r.frm.toNat := c1
  have d1 : c.1 = r.guid.toNat := d1
  have e1 : d.1 = r.origin.toNat := e1
  have f1 : t.1 = r.snap := f1
  show ({ zDo 2 with name := n.1, typ := a.1, frm := b.1, guid := c.1, origin := d.1, snap := t.1, props := p.1 } : Rec) = _
  rw [a1, b1, c1, d1, e1, f1, hp1, Int.toNat_of_nonneg (by omega), Int.toNat_of_nonneg (by omega), Int.toNat_of_nonneg (by omega), Int.toNat_of_nonneg (by omega)]
theorem takeK_read {r : Rec} (h : ckB r = true) {s : Rdr} (h0 : s.At (zEl r.kind r)) : (zHw r.kind s).1 = r ∧ (zHw r.kind s).2.At [] := by
  obtain ⟨h1, h2, h3⟩ := ckB_all h
  rcases zEt h1 with hk | hk | hk | hk | hk | hk | hk <;> rw [hk] at h2 h0 ⊢
  · exact take1_read hk h2 h3 h0
  · exact take2_read hk h2 h3 h0
  · exact take3_read hk h2 h3 h0
  · exact take4_read hk h2 h3 h0
  · exact take5_read hk h2 h3 h0
  · exact zLj hk (bare6 (by omega) (by omega) (by omega) (by omega) (by omega)) h2 h3 h0
  · exact zLj hk (bare6 (by omega) (by omega) (by omega) (by omega) (by omega)) h2 h3 h0
end Go.Proofs.YtbogecljkaimdaaGreatDoor
namespace Go.Proofs.YtbogecljkaimdaaGreatDoor
open Go.Sl
set_option maxRecDepth 10000
theorem zHz (k : Int) (body : List UInt8) (s : Fs) (t : List UInt8) : zDj k body s ++ t = zBv k.toNat 1 ++ (zBv body.length 4 ++ (body ++ (zFa (ownS k body s) ++ t))) := by
  simp only [zDj, zFx, headB, List.append_assoc]
theorem zHc {α : Type} {a b : List α} {n : Nat} (h : n = a.length) : (a ++ b).take n = a := by subst h; simp
theorem zKp {α : Type} {a b : List α} {n : Nat} (h : n = a.length) : (a ++ b).drop n = b := by subst h; simp
section
variable {k : Int} (hk : inK k) {body : List UInt8} (hb : body.length ≤ 2048) (s : Fs) (t : List UInt8)
include hk
theorem piece_kind : (zFb (zDj k body s ++ t) : Int) = k := by
  rw [zHz, zFb, zHc (by rw [zBc]), zGl (by have := hk.2; omega)]
  have := hk.1
  omega
include hb
omit hk in
theorem zHk : zDc (zDj k body s ++ t) = body.length := by
  rw [zHz, zDc, zKp (by rw [zBc]), zHc (by rw [zBc]), zGl (by omega)]
omit hk in
theorem piece_body : zJe (zDj k body s ++ t) = body := by
  rw [zJe, zHk hb, zHz, ← List.append_assoc, zKp (by simp [zBc]), zHc rfl]
omit hk in
theorem piece_take : (zDj k body s ++ t).take (5 + zDc (zDj k body s ++ t)) = zFx k body := by
  rw [zHk hb, zDj, List.append_assoc, zHc (by rw [zEu])]
omit hk in
theorem piece_own : ownD (zDj k body s ++ t) s = ownS k body s := by rw [ownD, piece_take hb, ownS]
omit hk in
theorem piece_seal : ((zDj k body s ++ t).drop (5 + zDc (zDj k body s ++ t))).take 32 = zFa (ownS k body s) := by
  rw [zHk hb, zDj, List.append_assoc, zKp (by rw [zEu]), zHc (by rw [zDu])]
end
theorem dec_enc {r : Rec} (h : ckB r = true) (s : Fs) (t : List UInt8) : decR (zDj r.kind (zEl r.kind r) s ++ t) s = (0, r, (zDj r.kind (zEl r.kind r) s).length, ownS r.kind (zEl r.kind r) s) := by
  obtain ⟨h1, h2, h3⟩ := ckB_all h
  have hb := zKn h1 h2
  have hl := zGn r.kind (zEl r.kind r) s
  have e1 := piece_kind h1 (body := zEl r.kind r) s t
  have e2 := zHk (k := r.kind) hb s t
  have e3 := piece_body (k := r.kind) hb s t
  have e4 := piece_own (k := r.kind) hb s t
  have e5 := piece_seal (k := r.kind) hb s t
  obtain ⟨q1, q2⟩ := takeK_read h (at_start (zEl r.kind r))
  have hlen : (zDj r.kind (zEl r.kind r) s ++ t).length = 37 + (zEl r.kind r).length + t.length := by rw [List.length_append, hl]
  rw [dec_6 (by omega) (by rw [e1]; exact h1) (by omega) (by omega) (by rw [e4, e5]) (by rw [e1, e3]; exact done_read q2) (by rw [e1, e3, q1]; exact h), e1, e2, e3, e4, q1, hl]
end Go.Proofs.YtbogecljkaimdaaGreatDoor
