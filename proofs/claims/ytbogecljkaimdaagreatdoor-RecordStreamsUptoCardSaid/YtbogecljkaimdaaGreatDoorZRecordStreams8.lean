/-
  Texts put together (8).
-/
import Derived.Test.YtbogecljkaimdaaGreatDoorZRecordStreams7
namespace Go.Sl
theorem and31 {k : Int} (h : 1 ≤ k ∧ k ≤ 31) : bits .and .u64 (18446744073709551616 - k) 31 = 32 - k := by
  have key : ∀ n : Fin 32, 1 ≤ n.val → bits .and .u64 (18446744073709551616 - (n.val : Int)) 31 = 32 - (n.val : Int) := by decide +kernel
  obtain ⟨n, rfl⟩ : ∃ n : Nat, k = n := ⟨k.toNat, by omega⟩
  exact key ⟨n, by omega⟩ (by show 1 ≤ n; omega)
theorem ws_at (b : List UInt8) (n j : Nat) (r : List Value) (h : j < n) : (u32s (wsN b n) ++ r)[j]? = some (.int .u32 ((wsN b n).getD j 0)) := by
  have hl := zEr b n
  rw [List.getElem?_append_left (by rw [List.length_map]; omega), List.getElem?_map, List.getElem?_eq_getElem (by omega), List.getD, List.getElem?_eq_getElem (by omega)]; rfl
theorem ws_step (b : List UInt8) (n : Nat) : u32s (wsN b (n + 1)) = u32s (wsN b n) ++ [.int .u32 (if n < 16 then word32 b n else wnext (wsN b n) n)] := by rw [wsN, u32s, List.map_append]; rfl
theorem u32_at (l : List Int) {j : Nat} (h : j < l.length) : (u32s l)[j]? = some (.int .u32 (l.getD j 0)) := by
  rw [List.getElem?_map, List.getElem?_eq_getElem h, List.getD, List.getElem?_eq_getElem h]; rfl
theorem word_lit (b : List UInt8) {i : Nat} (h : 4 * i + 3 < b.length) : word32 b i = or32 (or32 (or32 (shl32 (b[4 * i]'(by omega)).toNat 24) (shl32 (b[4 * i + 1]'(by omega)).toNat 16)) (shl32 (b[4 * i + 2]'(by omega)).toNat 8)) (b[4 * i + 3]).toNat := by
  unfold word32; rw [gb_in b (by omega), gb_in b (by omega), gb_in b (by omega), gb_in b h]
def addL (h v : S8) (i : Nat) : List Int := (List.range 8).map fun j => if j < i then w32 (h.l.getD j 0 + v.l.getD j 0) else h.l.getD j 0
theorem zHw (h v : S8) (i : Nat) : (addL h v i).length = 8 := by simp [addL]
theorem addL_at (h v : S8) {i : Nat} (hi : i < 8) : (addL h v i).getD i 0 = h.l.getD i 0 := by
  have : i < (addL h v i).length := by rw [zHw]; exact hi
  rw [List.getD, List.getElem?_eq_getElem this]
  simp [addL]
theorem addL_set (h v : S8) {i : Nat} (hi : i < 8) : (u32s (addL h v i)).set i (.int .u32 (w32 (h.l.getD i 0 + v.l.getD i 0))) = u32s (addL h v (i + 1)) := by
  apply List.ext_getElem?
  intro j
  rw [List.getElem?_set, List.length_map, zHw]
  by_cases hj : i = j
  · subst hj; simp [addL, hi]
  · rw [if_neg hj]
    simp only [u32s, List.getElem?_map, addL]
    by_cases h8 : j < 8
    · rw [List.getElem?_range h8]
      simp only [Option.map_some]
      have : (j < i) ↔ (j < i + 1) := by omega
      simp only [this]
    · rw [List.getElem?_eq_none (l := List.range 8) (by simp; omega)]; rfl
theorem addL_zero (h v : S8) : addL h v 0 = h.l := rfl
theorem addL_end (h v : S8) : addL h v 8 = (h.add v).l := rfl
theorem Rd.cutc {C : zAy} {s m : Nat} {xs : List Value} {ad : Option Addr} {c lo hi : Nat} (h : Rd C s (.slice ad m c) m xs) (h1 : lo ≤ hi) (h2 : hi ≤ m) (h3 : hi ≤ c) :
    ∃ ad2, sliced ad lo hi c s = .slice ad2 (hi - lo) (c - lo) ∧ Rd C s (.slice ad2 (hi - lo) (c - lo)) (hi - lo) ((xs.drop (lo * s)).take ((hi - lo) * s)) :=
  ⟨_, rfl, h.piece rfl h1 h2 h3⟩
def Tab (As : List zAy) (g : Nat) (l : List Int) : Prop := ∃ G ∈ As, ∃ T fr, (g, Obj.cells (u32s l).toArray T fr) ∈ G
theorem Tab.tail {As : List zAy} {g : Nat} {l : List Int} {A : zAy} (h : Tab As g l) : Tab (A :: As) g l := by
  obtain ⟨G, hG, r⟩ := h; exact ⟨G, List.Mem.tail _ hG, r⟩
theorem Tab.cell {As : List zAy} {g : Nat} {l : List Int} {w : World} (h : Tab As g l) (S : Stab As w) {j : Nat} (hj : j < l.length) : w.cell? ⟨g, j, none⟩ = some (.int .u32 (l.getD j 0)) := by
  obtain ⟨G, hG, T, fr, hm⟩ := h
  exact zDf (S G hG _ hm) (u32_at l hj)
theorem shaK_len : shaK.length = 64 := rfl
theorem shs {n k : Nat} (hk : k ≤ 7) : ((n : Int) * 8) / 2 ^ (56 - 8 * (k : Int)).toNat = ((n * 8 / 2 ^ (56 - 8 * k) : Nat) : Int) := by
  rw [show (56 - 8 * (k : Int)).toNat = 56 - 8 * k by omega]; simp
end Go.Sl
namespace Go.Proofs.YtbogecljkaimdaaGreatDoor
open Go.Sl
set_option maxRecDepth 10000
theorem rotl_ret (x k : Int) (hk : 1 ≤ k ∧ k ≤ 31) (w0 : World) : Ret Tryz.prog 136 #[.int .u32 x, .int .i64 (-k)] w0 fun u w' => u = .int .u32 (rot x k) ∧ Trs w0 w' [] [] := by
  have S := St.begin (hp_nil w0)
  refine zCr 17 Tryz.func136 rfl rfl (by decide) ?_; intro a E
  refine wp_seq_k ?_; intro K hK
  refine zAb ?_
  refine zp E (zAd E rfl rfl) ?_; clear E a; intro a E
  refine wpList_nil ?_
  refine zAf hK ?_; clear hK; clear K
  refine wp_seq_k ?_; intro K hK
  refine zAb ?_
  refine zp E (zAe E rfl rfl) ?_; clear E a; intro a E
  refine zp E (zBe E rfl rfl rfl rfl (r := 18446744073709551616 - k) (by rw [IntKind.wrap_u64]; omega)) ?_; clear E a; intro a E
  refine zp E (zHi E rfl rfl rfl (and31 hk)) ?_; clear E a; intro a E
  refine zp E (zAd E rfl rfl) ?_; clear E a; intro a E
  refine wpList_nil ?_
  refine zAf hK ?_; clear hK; clear K
  refine wp_seq_k ?_; intro K hK
  refine zAb ?_
  iterate 2 (refine zp E (zAe E rfl rfl) ?_; clear E a; intro a E)
  refine zp E (zGm E rfl rfl rfl (by omega) (by simp only [IntKind.bits]; omega) rfl) ?_; clear E a; intro a E
  iterate 2 (refine zp E (zAe E rfl rfl) ?_; clear E a; intro a E)
  refine zp E (zDs E rfl rfl rfl (show IntKind.u64.wrap (32 - (32 - k)) = k by rw [IntKind.wrap_u64]; omega)) ?_; clear E a; intro a E
  refine zp E (zIc E rfl rfl rfl (by omega) (by simp only [IntKind.bits]; omega) rfl) ?_; clear E a; intro a E
  refine zp E (zIg E rfl rfl rfl (or32_comm _ _)) ?_; clear E a; intro a E
  refine zp E (zAd E rfl rfl) ?_; clear E a; intro a E
  refine wpList_nil ?_
  refine zAf hK ?_; clear hK; clear K
  refine wp_ret ?_
  refine ret1 E rfl rfl ?_
  exact ⟨_, rfl, rfl, (S.only (Bs := []) (zAr _)).tr⟩
theorem zIe (x k : Int) (hk : 1 ≤ k ∧ k ≤ 31) (w0 : World) : Ret Tryz.prog 130 #[.int .u32 x, .int .i64 k] w0 fun u w' => u = .int .u32 (rot x k) ∧ Trs w0 w' [] [] := by
  have S := St.begin (hp_nil w0)
  refine zCr 9 Tryz.func130 rfl rfl (by decide) ?_; intro a E
  refine wp_seq_k ?_; intro K hK
  refine zAb ?_
  refine zp E (zAd E rfl rfl) ?_; clear E a; intro a E
  refine wpList_nil ?_
  refine zAf hK ?_; clear hK; clear K
  refine wp_seq_k ?_; intro K hK
  refine zAb ?_
  iterate 2 (refine zp E (zAe E rfl rfl) ?_; clear E a; intro a E)
  refine zp E (rn_neg E rfl rfl (by first | exact wn_in (by omega) | exact rfl)) ?_; clear E a; intro a E
  refine zAp E rfl rfl (by decide) rfl Tryz.func136 rfl (by kernel_rfl) rfl (rotl_ret x k hk _) ?_
  rintro v8 w ⟨rfl, hT⟩; clear E a; intro a E
  have S := S.quiet hT
  refine zp E (zAd E rfl rfl) ?_; clear E a; intro a E
  refine wpList_nil ?_
  refine zAf hK ?_; clear hK; clear K
  refine wp_ret ?_
  refine ret1 E rfl rfl ?_
  exact ⟨_, rfl, rfl, (S.only (Bs := []) (zAr _)).tr⟩
theorem schedule_ret (b : List UInt8) (hl : b.length = 64) (w0 : World) : Ret Tryz.prog 119 #[.agg (byt b).toArray] w0 fun u w' => u = .agg (u32s (wsN b 64)).toArray ∧ Trs w0 w' [] [] := by
  have S := St.begin (hp_nil w0)
  have hbl := zEk b
  refine zCx 85 Tryz.func119 rfl rfl (by decide) ?_; intro a E
  refine wp_seq_k ?_; intro K hK
  refine zAb ?_
  refine zAn rfl (zCt E S rfl rfl (by decide) rfl rfl ?_); clear E S a; intro a w b1 E S
  refine zAn rfl (zBs E S rfl rfl (by decide) rfl rfl rfl ?_); clear E S a; intro a w b2 E S
  refine wpList_nil ?_
  refine zAf hK ?_; clear hK; clear K
  refine wp_seq_k ?_; intro K hK
  refine zAb ?_
  refine zAn rfl (zBs E S rfl rfl (by decide) rfl rfl rfl ?_); clear E S a; intro a w b3 E S
  refine wpList_nil ?_
  refine zAf hK ?_; clear hK; clear K
  iterate 2 (refine wp_seq_k ?_; intro K hK)
  refine zAb ?_
  refine zp E (zAe E rfl rfl) ?_; clear E a; intro a E
  refine wpList_nil ?_
  refine zAf hK ?_; clear hK; clear K
  refine wp_block ?_
  refine wp_loop_ghost (fun (m : Nat) (a : Act) (w' : World) => ∃ i, m = 16 - i ∧ i ≤ 16 ∧ St w0 [] w' [[(b3, cel (u32s (wsN b i) ++ List.replicate (64 - i) (.int .u32 0)) 127)], [(b2, cel (List.replicate 64 (.int .u32 0)) 127)], [(b1, cel (byt b) 136)]] ∧ Fr a 85 [(1, ptr b1), (2, ptr b2), (3, ptr b3), (8, .int .i64 i)]) (16 - 0) ?_ ?_
  · exact ⟨0, rfl, by omega, S, E.keep (zAa rfl (zAa rfl (zAa rfl (zAa rfl zAm))))⟩
  clear E; clear a; (try clear S); rintro m a w ⟨i, rfl, hi, S, E⟩
  refine wp_seq_k ?_; intro K hK
  refine zAb ?_
  refine zp E (zCn E rfl rfl rfl) ?_; clear E a; intro a E
  refine wpList_nil ?_
  refine zAf hK ?_; clear hK; clear K
  refine wp_seq_k ?_; intro K hK
  refine zBf E rfl (fun hb => ?_) (fun hb => ?_)
  · replace hb := Nrm.nrm hb
    refine wp_skip ?_
    refine zAf hK ?_; clear hK; clear K
    refine wp_seq_k ?_; intro K hK
    refine wp_block ?_
    refine wp_seq_k ?_; intro K hK
    refine zAb ?_
    refine zp E (zAe E rfl rfl) ?_; clear E a; intro a E
    refine zp E (zAd E rfl rfl) ?_; clear E a; intro a E
    refine wpList_nil ?_
    refine zAf hK ?_; clear hK; clear K
    have hwl := zEr b i
    have hst := ws_step b i
    rw [if_pos (by omega), word_lit b (by omega)] at hst
    refine zBz S (.ofL [(0, 0), (1, 0), (2, 0), (3, 0), (4, 0), (5, 0), (6, 0), (7, 0), (8, 0), (9, 0), (10, 0), (11, 0), (12, 0), (13, 0), (14, 0), (15, 0), (16, 0), (17, 0), (18, 0), (19, 0), (20, 0), (21, 0), (22, 0), (23, 0), (24, 0), (25, 0), (26, 0), (27, 0), (28, 0), (29, 0), (30, 0), (31, 3)]) (by kernel_rfl) (by kernel_rfl) ?_
    clear S; intro w S
    iterate 2 (refine zm E rfl (fun w h => zAe E rfl rfl) ?_; clear E a; intro a E)
    refine zm E rfl (fun w h => zFb E rfl rfl rfl (by first | exact zFp (x := 4) (by omega) | exact zEt (x := 4) (by omega) | exact w_in (by omega) | exact rfl)) ?_; clear E a; intro a E
    refine zm E rfl (fun w h => zCw (i := 4 * i) E rfl rfl rfl rfl rfl rfl (by omega)) ?_; clear E a; intro a E
    refine zm E rfl (fun w h => zAj E rfl rfl rfl (zDf (h.one (by repeat (first | exact mm1 | assumption | apply List.Mem.tail))) (zKg b (i := 4 * i) (by omega)))) ?_; clear E a; intro a E
    refine zm E rfl (fun w h => zBe E rfl rfl rfl rfl (w8_32 _)) ?_; clear E a; intro a E
    refine zm E rfl (fun w h => zGm E rfl rfl rfl (by omega) (by simp only [IntKind.bits]; omega) rfl) ?_; clear E a; intro a E
    refine zm E rfl (fun w h => zAe E rfl rfl) ?_; clear E a; intro a E
    refine zm E rfl (fun w h => zFb E rfl rfl rfl (by first | exact zFp (x := 4) (by omega) | exact zEt (x := 4) (by omega) | exact w_in (by omega) | exact rfl)) ?_; clear E a; intro a E
    refine zm E rfl (fun w h => zBu E rfl rfl rfl (by first | exact zCl (y := 1) (by omega) | exact w_in (by omega) | exact zBt (by omega) | exact rfl)) ?_; clear E a; intro a E
    refine zm E rfl (fun w h => zCw (i := 4 * i + 1) E rfl rfl rfl rfl rfl rfl (by omega)) ?_; clear E a; intro a E
    refine zm E rfl (fun w h => zAj E rfl rfl rfl (zDf (h.one (by repeat (first | exact mm1 | assumption | apply List.Mem.tail))) (zKg b (i := 4 * i + 1) (by omega)))) ?_; clear E a; intro a E
    refine zm E rfl (fun w h => zBe E rfl rfl rfl rfl (w8_32 _)) ?_; clear E a; intro a E
    refine zm E rfl (fun w h => zGm E rfl rfl rfl (by omega) (by simp only [IntKind.bits]; omega) rfl) ?_; clear E a; intro a E
    refine zm E rfl (fun w h => zIg E rfl rfl rfl rfl) ?_; clear E a; intro a E
    refine zm E rfl (fun w h => zAe E rfl rfl) ?_; clear E a; intro a E
    refine zm E rfl (fun w h => zFb E rfl rfl rfl (by first | exact zFp (x := 4) (by omega) | exact zEt (x := 4) (by omega) | exact w_in (by omega) | exact rfl)) ?_; clear E a; intro a E
    refine zm E rfl (fun w h => zBu E rfl rfl rfl (by first | exact zCl (y := 2) (by omega) | exact w_in (by omega) | exact zBt (by omega) | exact rfl)) ?_; clear E a; intro a E
    refine zm E rfl (fun w h => zCw (i := 4 * i + 2) E rfl rfl rfl rfl rfl rfl (by omega)) ?_; clear E a; intro a E
    refine zm E rfl (fun w h => zAj E rfl rfl rfl (zDf (h.one (by repeat (first | exact mm1 | assumption | apply List.Mem.tail))) (zKg b (i := 4 * i + 2) (by omega)))) ?_; clear E a; intro a E
    refine zm E rfl (fun w h => zBe E rfl rfl rfl rfl (w8_32 _)) ?_; clear E a; intro a E
    refine zm E rfl (fun w h => zGm E rfl rfl rfl (by omega) (by simp only [IntKind.bits]; omega) rfl) ?_; clear E a; intro a E
    refine zm E rfl (fun w h => zIg E rfl rfl rfl rfl) ?_; clear E a; intro a E
    refine zm E rfl (fun w h => zAe E rfl rfl) ?_; clear E a; intro a E
    refine zm E rfl (fun w h => zFb E rfl rfl rfl (by first | exact zFp (x := 4) (by omega) | exact zEt (x := 4) (by omega) | exact w_in (by omega) | exact rfl)) ?_; clear E a; intro a E
    refine zm E rfl (fun w h => zBu E rfl rfl rfl (by first | exact zCl (y := 3) (by omega) | exact w_in (by omega) | exact zBt (by omega) | exact rfl)) ?_; clear E a; intro a E
    refine zm E rfl (fun w h => zCw (i := 4 * i + 3) E rfl rfl rfl rfl rfl rfl (by omega)) ?_; clear E a; intro a E
    refine zm E rfl (fun w h => zAj E rfl rfl rfl (zDf (h.one (by repeat (first | exact mm1 | assumption | apply List.Mem.tail))) (zKg b (i := 4 * i + 3) (by omega)))) ?_; clear E a; intro a E
    refine zm E rfl (fun w h => zBe E rfl rfl rfl rfl (w8_32 _)) ?_; clear E a; intro a E
    refine zm E rfl (fun w h => zIg E rfl rfl rfl rfl) ?_; clear E a; intro a E
    refine zm E rfl (fun w h => zCw (i := i) E rfl rfl rfl rfl rfl rfl (by omega)) ?_; clear E a; intro a E
    refine zCk rfl rfl (zBo E S rfl rfl rfl rfl rfl rfl (by repeat (first | exact pk1 | apply zAc)) (by rw [List.length_append, List.length_map, List.length_replicate]; omega) ?_); clear E S a; intro a w E S; try dsimp only [List.set] at S
    rw [zHk (u32s (wsN b i)) 64 (.int .u32 0) _ i (by rw [List.length_map, hwl]) (by omega)] at S
    refine zBw ?_
    refine zBi ?_
    refine zAf hK ?_; clear hK; clear K
    refine zAb ?_
    refine zp E (zBu E rfl rfl rfl (by first | exact zCl (y := 1) (by omega) | exact w_in (by omega) | exact zBt (by omega) | exact rfl)) ?_; clear E a; intro a E
    refine zp E (zAe E rfl rfl) ?_; clear E a; intro a E
    refine wpList_nil ?_
    refine zBq ?_
    exact ⟨_, by omega, i + 1, rfl, by omega, by rw [hst]; exact S, E.keep (zAa rfl (zAa rfl (zAa rfl (zAa rfl zAm))))⟩
  · replace hb := Nrm.nrm hb
    refine wp_exit ?_
    refine zBc ?_; clear hK; clear K
    refine zBc ?_
    refine zCj ?_
    refine zAf hK ?_; clear hK; clear K
    iterate 2 (refine wp_seq_k ?_; intro K hK)
    refine zAb ?_
    refine zp E (zAd E rfl rfl) ?_; clear E a; intro a E
    refine wpList_nil ?_
    refine zAf hK ?_; clear hK; clear K
    refine wp_block ?_
    refine wp_loop_ghost (fun (m : Nat) (a : Act) (w' : World) => ∃ i, m = 64 - i ∧ 16 ≤ i ∧ i ≤ 64 ∧ St w0 [] w' [[(b3, cel (u32s (wsN b i) ++ List.replicate (64 - i) (.int .u32 0)) 127)], [(b2, cel (List.replicate 64 (.int .u32 0)) 127)], [(b1, cel (byt b) 136)]] ∧ Fr a 85 [(2, ptr b2), (3, ptr b3), (5, .int .i64 i)]) (64 - 16) ?_ ?_
    · exact ⟨16, rfl, by omega, by omega, by obtain rfl : i = 16 := (by omega); exact S, E.keep (zAa rfl (zAa rfl (zAa rfl zAm)))⟩
    clear E; clear a; (try clear S); rintro m a w ⟨i, rfl, h16, hi, S, E⟩
    iterate 2 (refine wp_seq_k ?_; intro K hK)
    refine zAb ?_
    refine zp E (zAe E rfl rfl) ?_; clear E a; intro a E
    refine zp E (zCn E rfl rfl rfl) ?_; clear E a; intro a E
    refine wpList_nil ?_
    refine zAf hK ?_; clear hK; clear K
    refine zBf E rfl (fun hb => ?_) (fun hb => ?_)
    · replace hb := Nrm.nrm hb
      refine wp_skip ?_
      refine zAf hK ?_; clear hK; clear K
      refine wp_seq_k ?_; intro K hK
      refine wp_block ?_
      refine wp_seq_k ?_; intro K hK
      have hwl := zEr b i
      have hst := ws_step b i
      rw [if_neg (by omega)] at hst
      refine zBz S (.ofL [(0, 0), (1, 0), (2, 0), (3, 0), (4, 0), (5, 0), (6, 0), (7, 0), (8, 0), (9, 0)]) (by kernel_rfl) (by kernel_rfl) ?_
      clear S; intro w S
      refine zm E rfl (fun w h => zAe E rfl rfl) ?_; clear E a; intro a E
      refine zm E rfl (fun w h => zDs E rfl rfl rfl (by first | exact zGa (y := 15) (by omega) (by omega) | exact w_in (by omega) | exact zBt (by omega) | exact rfl)) ?_; clear E a; intro a E
      refine zm E rfl (fun w h => zCw (i := i - 15) E rfl rfl rfl rfl rfl rfl (by omega)) ?_; clear E a; intro a E
      refine zm E rfl (fun w h => zAj E rfl rfl rfl (zDf (h.one (by repeat (first | exact mm1 | assumption | apply List.Mem.tail))) (ws_at b i (i - 15) _ (by omega)))) ?_; clear E a; intro a E
      refine zm E rfl (fun w h => zAe E rfl rfl) ?_; clear E a; intro a E
      refine zm E rfl (fun w h => zDs E rfl rfl rfl (by first | exact zGa (y := 2) (by omega) (by omega) | exact w_in (by omega) | exact zBt (by omega) | exact rfl)) ?_; clear E a; intro a E
      refine zm E rfl (fun w h => zCw (i := i - 2) E rfl rfl rfl rfl rfl rfl (by omega)) ?_; clear E a; intro a E
      refine zm E rfl (fun w h => zAj E rfl rfl rfl (zDf (h.one (by repeat (first | exact mm1 | assumption | apply List.Mem.tail))) (ws_at b i (i - 2) _ (by omega)))) ?_; clear E a; intro a E
      iterate 2 (refine zm E rfl (fun w h => zAd E rfl rfl) ?_; clear E a; intro a E)
      refine zBw ?_
      refine zAf hK ?_; clear hK; clear K
      refine zBz S (.ofL [(0, 0), (1, 0), (2, 0), (3, 0), (4, 0), (5, 0), (7, 0), (10, 0), (11, 0), (14, 0), (15, 0), (16, 0), (17, 0), (19, 0), (21, 0), (24, 0), (25, 0), (6, 1), (8, 1), (9, 0), (12, 0), (13, 0), (18, 0), (20, 1), (22, 1), (23, 0), (26, 0), (27, 0), (28, 0), (29, 3)]) (by kernel_rfl) (by kernel_rfl) ?_
      clear S; intro w S
      iterate 2 (refine zm E rfl (fun w h => zAe E rfl rfl) ?_; clear E a; intro a E)
      refine zm E rfl (fun w h => zDs E rfl rfl rfl (by first | exact zGa (y := 16) (by omega) (by omega) | exact w_in (by omega) | exact zBt (by omega) | exact rfl)) ?_; clear E a; intro a E
      refine zm E rfl (fun w h => zCw (i := i - 16) E rfl rfl rfl rfl rfl rfl (by omega)) ?_; clear E a; intro a E
      refine zm E rfl (fun w h => zAj E rfl rfl rfl (zDf (h.one (by repeat (first | exact mm1 | assumption | apply List.Mem.tail))) (ws_at b i (i - 16) _ (by omega)))) ?_; clear E a; intro a E
      iterate 3 (refine zm E rfl (fun w h => zAe E rfl rfl) ?_; clear E a; intro a E)
      refine zm E rfl (fun w h => zIc E rfl rfl rfl (by omega) (by simp only [IntKind.bits]; omega) rfl) ?_; clear E a; intro a E
      refine zm E rfl (fun w h => zAe E rfl rfl) ?_; clear E a; intro a E
      refine zm E rfl (fun w h => zDs E rfl rfl rfl (by first | exact zGa (y := 7) (by omega) (by omega) | exact w_in (by omega) | exact zBt (by omega) | exact rfl)) ?_; clear E a; intro a E
      refine zm E rfl (fun w h => zCw (i := i - 7) E rfl rfl rfl rfl rfl rfl (by omega)) ?_; clear E a; intro a E
      refine zm E rfl (fun w h => zAj E rfl rfl rfl (zDf (h.one (by repeat (first | exact mm1 | assumption | apply List.Mem.tail))) (ws_at b i (i - 7) _ (by omega)))) ?_; clear E a; intro a E
      iterate 3 (refine zm E rfl (fun w h => zAe E rfl rfl) ?_; clear E a; intro a E)
      refine zm E rfl (fun w h => zIc E rfl rfl rfl (by omega) (by simp only [IntKind.bits]; omega) rfl) ?_; clear E a; intro a E
      refine zCc E rfl rfl rfl (by decide) rfl Tryz.func130 rfl (by kernel_rfl) rfl (zIe _ 7 (by omega) _) ?_
      rintro v61 w ⟨rfl, hT⟩; clear E a; intro a E
      have S := S.quiet hT
      refine ⟨S.stab.sub (by first | (simp; done) | (simp +contextual; done) | (simp [*]; done)), ?_⟩
      refine zCc E rfl rfl rfl (by decide) rfl Tryz.func130 rfl (by kernel_rfl) rfl (zIe _ 18 (by omega) _) ?_
      rintro v63 w ⟨rfl, hT⟩; clear E a; intro a E
      have S := S.quiet hT
      refine ⟨S.stab.sub (by first | (simp; done) | (simp +contextual; done) | (simp [*]; done)), ?_⟩
      iterate 2 (refine zm E rfl (fun w h => zFe E rfl rfl rfl rfl) ?_; clear E a; intro a E)
      iterate 2 (refine zm E rfl (fun w h => zBu E rfl rfl rfl (by first | exact wa1 (by omega) | exact w_in (by omega) | exact zBt (by omega) | exact rfl)) ?_; clear E a; intro a E)
      refine zCc E rfl rfl rfl (by decide) rfl Tryz.func130 rfl (by kernel_rfl) rfl (zIe _ 17 (by omega) _) ?_
      rintro v75 w ⟨rfl, hT⟩; clear E a; intro a E
      have S := S.quiet hT
      refine ⟨S.stab.sub (by first | (simp; done) | (simp +contextual; done) | (simp [*]; done)), ?_⟩
      refine zCc E rfl rfl rfl (by decide) rfl Tryz.func130 rfl (by kernel_rfl) rfl (zIe _ 19 (by omega) _) ?_
      rintro v77 w ⟨rfl, hT⟩; clear E a; intro a E
      have S := S.quiet hT
      refine ⟨S.stab.sub (by first | (simp; done) | (simp +contextual; done) | (simp [*]; done)), ?_⟩
      iterate 2 (refine zm E rfl (fun w h => zFe E rfl rfl rfl rfl) ?_; clear E a; intro a E)
      refine zm E rfl (fun w h => zBu E rfl rfl rfl (by first | exact wa1 (by omega) | exact w_in (by omega) | exact zBt (by omega) | exact rfl)) ?_; clear E a; intro a E
      refine zm E rfl (fun w h => zCw (i := i) E rfl rfl rfl rfl rfl rfl (by omega)) ?_; clear E a; intro a E
      refine zCk rfl rfl (zBo E S rfl rfl rfl rfl rfl rfl (by repeat (first | exact pk1 | apply zAc)) (by rw [List.length_append, List.length_map, List.length_replicate]; omega) ?_); clear E S a; intro a w E S; try dsimp only [List.set] at S
      rw [zHk (u32s (wsN b i)) 64 (.int .u32 0) _ i (by rw [List.length_map, hwl]) (by omega)] at S
      refine zBw ?_
      refine zBi ?_
      refine zAf hK ?_; clear hK; clear K
      refine zAb ?_
      refine zp E (zAe E rfl rfl) ?_; clear E a; intro a E
      refine zp E (zBu E rfl rfl rfl (by first | exact zCl (y := 1) (by omega) | exact w_in (by omega) | exact zBt (by omega) | exact rfl)) ?_; clear E a; intro a E
      refine zp E (zAd E rfl rfl) ?_; clear E a; intro a E
      refine wpList_nil ?_
      refine zBq ?_
      exact ⟨_, by omega, i + 1, rfl, by omega, by omega, by rw [hst]; exact S, E.keep (zAa rfl (zAa rfl (zAa rfl zAm)))⟩
    · replace hb := Nrm.nrm hb
      refine wp_exit ?_
      refine zBc ?_; clear hK; clear K
      refine zBc ?_
      refine zCj ?_
      refine zAf hK ?_; clear hK; clear K
      refine wp_seq_k ?_; intro K hK
      obtain rfl : i = 64 := by omega
      have hwl := zEr b 64
      rw [Nat.sub_self, List.replicate_zero, List.append_nil] at S
      obtain ⟨ws, hws⟩ : ∃ ws, ws = wsN b 64 := ⟨_, rfl⟩
      rw [← hws] at S hwl ⊢
      have hul : (u32s ws).length = 64 := by rw [List.length_map, hwl]
      refine zAb ?_
      refine zp E (zGc E rfl rfl rfl (S.get (by repeat (first | exact pk1 | apply zAc))) hul) ?_; clear E a; intro a E
      refine zAn rfl (zGt E S rfl rfl rfl rfl (zIp ws) rfl hul (by repeat (first | exact pk1 | apply zAc)) (by rw [hul]; rfl) ?_); clear E S a; intro a w E S
      refine wpList_nil ?_
      refine zAf hK ?_; clear hK; clear K
      refine wp_ret ?_
      refine zGs E rfl rfl (S.get (by repeat (first | exact pk1 | apply zAc))) (by rw [hul]; rfl) ?_
      exact ⟨_, rfl, (by first | (rw [← hws]; done) | with_reducible rfl), (S.only (Bs := []) (zAr _)).tr⟩
end Go.Proofs.YtbogecljkaimdaaGreatDoor
namespace Go.Sl
theorem s8_at (s : S8) {i : Nat} (h : i < 8) : (u32s s.l)[i]? = some (.int .u32 (s.l.getD i 0)) := u32_at s.l h
theorem lenB_succ (n k : Nat) : lenB n (k + 1) = lenB n k ++ [UInt8.ofNat (n / 2 ^ (56 - 8 * k))] := rfl
theorem blk_length (all : List UInt8) {k : Nat} (h : 64 * k + 64 ≤ all.length) : (blk all k).length = 64 := by rw [blk, List.length_take, List.length_drop]; omega
theorem zKt {n : Nat} (h : n ≤ 140737488352000) : n + 1 + padZ n + 8 ≤ 140737488352100 := by unfold padZ; omega
end Go.Sl
namespace Go.Proofs.YtbogecljkaimdaaGreatDoor
open Go.Sl
set_option maxRecDepth 10000
theorem mixed_ret (s0 : S8) (ws : List Int) (hw : ws.length = 64) (As : List zAy) (hG : Tab As 2 shaK) (w0 : World) (H : Hp w0 As) :
    Ret Tryz.prog 118 #[.agg (u32s s0.l).toArray, .agg (u32s ws).toArray] w0 fun u w' => u = .agg (u32s (s0.add (s0.mix shaK ws 64)).l).toArray ∧ Trs w0 w' As As := by
  have S := St.begin H
  have hul : (u32s ws).length = 64 := by rw [List.length_map, hw]
  refine zCr 119 Tryz.func118 rfl rfl (by decide) ?_; intro a E
  refine wp_seq_k ?_; intro K hK
  refine zAb ?_
  refine zAn rfl (zCt E S rfl rfl (by decide) rfl rfl ?_); clear E S a; intro a w b2 E S
  refine zAn rfl (zCt E S rfl rfl (by decide) rfl rfl ?_); clear E S a; intro a w b3 E S
  refine zAn rfl (zBs E S rfl rfl (by decide) rfl rfl rfl ?_); clear E S a; intro a w b4 E S
  refine wpList_nil ?_
  refine zAf hK ?_; clear hK; clear K
  refine wp_seq_k ?_; intro K hK
  refine zBz S (.ofL [(0, 0), (1, 0), (2, 0), (3, 0), (4, 0), (5, 0), (6, 0), (7, 0), (8, 0), (9, 0), (10, 0), (11, 0), (12, 0), (13, 0), (14, 0), (15, 0), (16, 0), (17, 0), (18, 0), (19, 0), (20, 0), (21, 0), (22, 0), (23, 0)]) (by kernel_rfl) (by kernel_rfl) ?_
  clear S; intro w S
  refine zm E rfl (fun w h => zCw (i := 0) E rfl rfl rfl rfl rfl rfl (by omega)) ?_; clear E a; intro a E
  refine zm E rfl (fun w h => by first | exact zAo E rfl rfl rfl (h.one (by repeat (first | exact mm1 | assumption | apply List.Mem.tail))) rfl | exact zAj E rfl rfl rfl (by assumption)) ?_; clear E a; intro a E
  refine zm E rfl (fun w h => zCw (i := 1) E rfl rfl rfl rfl rfl rfl (by omega)) ?_; clear E a; intro a E
  refine zm E rfl (fun w h => by first | exact zAo E rfl rfl rfl (h.one (by repeat (first | exact mm1 | assumption | apply List.Mem.tail))) rfl | exact zAj E rfl rfl rfl (by assumption)) ?_; clear E a; intro a E
  refine zm E rfl (fun w h => zCw (i := 2) E rfl rfl rfl rfl rfl rfl (by omega)) ?_; clear E a; intro a E
  refine zm E rfl (fun w h => by first | exact zAo E rfl rfl rfl (h.one (by repeat (first | exact mm1 | assumption | apply List.Mem.tail))) rfl | exact zAj E rfl rfl rfl (by assumption)) ?_; clear E a; intro a E
  refine zm E rfl (fun w h => zCw (i := 3) E rfl rfl rfl rfl rfl rfl (by omega)) ?_; clear E a; intro a E
  refine zm E rfl (fun w h => by first | exact zAo E rfl rfl rfl (h.one (by repeat (first | exact mm1 | assumption | apply List.Mem.tail))) rfl | exact zAj E rfl rfl rfl (by assumption)) ?_; clear E a; intro a E
  refine zm E rfl (fun w h => zCw (i := 4) E rfl rfl rfl rfl rfl rfl (by omega)) ?_; clear E a; intro a E
  refine zm E rfl (fun w h => by first | exact zAo E rfl rfl rfl (h.one (by repeat (first | exact mm1 | assumption | apply List.Mem.tail))) rfl | exact zAj E rfl rfl rfl (by assumption)) ?_; clear E a; intro a E
  refine zm E rfl (fun w h => zCw (i := 5) E rfl rfl rfl rfl rfl rfl (by omega)) ?_; clear E a; intro a E
  refine zm E rfl (fun w h => by first | exact zAo E rfl rfl rfl (h.one (by repeat (first | exact mm1 | assumption | apply List.Mem.tail))) rfl | exact zAj E rfl rfl rfl (by assumption)) ?_; clear E a; intro a E
  refine zm E rfl (fun w h => zCw (i := 6) E rfl rfl rfl rfl rfl rfl (by omega)) ?_; clear E a; intro a E
  refine zm E rfl (fun w h => by first | exact zAo E rfl rfl rfl (h.one (by repeat (first | exact mm1 | assumption | apply List.Mem.tail))) rfl | exact zAj E rfl rfl rfl (by assumption)) ?_; clear E a; intro a E
  refine zm E rfl (fun w h => zCw (i := 7) E rfl rfl rfl rfl rfl rfl (by omega)) ?_; clear E a; intro a E
  refine zm E rfl (fun w h => by first | exact zAo E rfl rfl rfl (h.one (by repeat (first | exact mm1 | assumption | apply List.Mem.tail))) rfl | exact zAj E rfl rfl rfl (by assumption)) ?_; clear E a; intro a E
  iterate 8 (refine zm E rfl (fun w h => zAd E rfl rfl) ?_; clear E a; intro a E)
  refine zBw ?_
  refine zAf hK ?_; clear hK; clear K
  iterate 2 (refine wp_seq_k ?_; intro K hK)
  replace E := E.keep (e' := [(2, _), (3, _), (4, _), (5, _), (6, _), (7, _), (8, _), (9, _), (10, _), (11, _), (12, _)]) (zAa rfl (zAa rfl (zAa rfl (zAa rfl (zAa rfl (zAa rfl (zAa rfl (zAa rfl (zAa rfl (zAa rfl (zAa rfl (zAm))))))))))))
  refine zAb ?_
  refine zp E (zGc E rfl rfl rfl (S.get (by repeat (first | exact pk1 | apply zAc))) hul) ?_; clear E a; intro a E
  refine zp E (zAe E rfl rfl) ?_; clear E a; intro a E
  refine wpList_nil ?_
  refine zAf hK ?_; clear hK; clear K
  refine wp_block ?_
  refine wp_loop_ghost (fun (m : Nat) (a : Act) (w' : World) => ∃ (i : Nat) (s : S8), m = 64 - i ∧ i ≤ 64 ∧ s = S8.mix s0 shaK ws i ∧ St w0 As w' ([(b4, cel (List.replicate 8 (.int .u32 0)) 122)] :: [(b3, cel (u32s ws) 127)] :: [(b2, cel (u32s s0.l) 122)] :: As) ∧ Fr a 119 [(2, ptr b2), (4, ptr b4), (5, .int .u32 s.a), (6, .int .u32 s.b), (7, .int .u32 s.c), (8, .int .u32 s.d), (9, .int .u32 s.e), (10, .int .u32 s.f), (11, .int .u32 s.g), (12, .int .u32 s.h), (35, .agg (u32s ws).toArray), (36, .int .i64 i)]) (64 - 0) ?_ ?_
  · exact ⟨0, s0, rfl, by omega, rfl, S, E.keep (zAa rfl (zAa rfl (zAa rfl (zAa rfl (zAa rfl (zAa rfl (zAa rfl (zAa rfl (zAa rfl (zAa rfl (zAa rfl (zAa rfl zAm))))))))))))⟩
  clear E; clear a; (try clear S); rintro m a w ⟨i, s, rfl, hi, hs, S, E⟩
  refine wp_seq_k ?_; intro K hK
  refine zAb ?_
  refine zp E (zCn E rfl rfl rfl) ?_; clear E a; intro a E
  refine wpList_nil ?_
  refine zAf hK ?_; clear hK; clear K
  refine wp_seq_k ?_; intro K hK
  refine zBf E rfl (fun hb => ?_) (fun hb => ?_)
  · replace hb := Nrm.nrm hb
    refine wp_skip ?_
    refine zAf hK ?_; clear hK; clear K
    refine wp_seq_k ?_; intro K hK
    refine wp_block ?_
    refine wp_seq_k ?_; intro K hK
    refine zAb ?_
    refine zp E (zAe E rfl rfl) ?_; clear E a; intro a E
    refine zp E (zJi E rfl rfl rfl rfl rfl rfl rfl (by omega) (v := .int .u32 (ws.getD i 0)) (by rw [List.getElem?_toArray]; exact u32_at ws (by omega))) ?_; clear E a; intro a E
    iterate 2 (refine zp E (zAd E rfl rfl) ?_; clear E a; intro a E)
    refine wpList_nil ?_
    refine zAf hK ?_; clear hK; clear K
    refine wp_seq_k ?_; intro K hK
    refine zBz S (.ofL [(0, 0), (1, 0), (3, 0), (6, 0), (10, 0), (11, 0), (12, 0), (13, 0), (14, 0), (15, 0), (16, 0), (17, 0), (19, 0), (20, 0), (21, 0), (23, 0), (2, 1), (4, 1), (5, 0), (7, 1), (8, 0), (9, 0), (18, 0), (22, 0), (24, 0), (25, 0)]) (by kernel_rfl) (by kernel_rfl) ?_
    clear S; intro w S
    iterate 6 (refine zm E rfl (fun w h => zAe E rfl rfl) ?_; clear E a; intro a E)
    refine zm E rfl (fun w h => zHi E rfl rfl rfl rfl) ?_; clear E a; intro a E
    refine zm E rfl (fun w h => zAe E rfl rfl) ?_; clear E a; intro a E
    refine zm E rfl (fun w h => rn_com E rfl rfl rfl) ?_; clear E a; intro a E
    refine zm E rfl (fun w h => zAe E rfl rfl) ?_; clear E a; intro a E
    refine zm E rfl (fun w h => zHi E rfl rfl rfl rfl) ?_; clear E a; intro a E
    refine zm E rfl (fun w h => zFe E rfl rfl rfl rfl) ?_; clear E a; intro a E
    refine zm E rfl (fun w h => zAe E rfl rfl) ?_; clear E a; intro a E
    refine zm E rfl (fun w h => zCw (i := i) E rfl rfl rfl rfl rfl rfl (by omega)) ?_; clear E a; intro a E
    refine zm E rfl (fun w h => zAj E rfl rfl rfl (hG.tail.tail.tail.cell h (j := i) (by rw [shaK_len]; omega))) ?_; clear E a; intro a E
    refine zm E rfl (fun w h => zAe E rfl rfl) ?_; clear E a; intro a E
    refine zCc E rfl rfl rfl (by decide) rfl Tryz.func130 rfl (by kernel_rfl) rfl (zIe s.e 6 (by omega) _) ?_
    rintro v42 w ⟨rfl, hT⟩; clear E a; intro a E
    have S := S.quiet hT
    refine ⟨S.stab.sub (by first | (simp; done) | (simp +contextual; done) | (simp [*]; done)), ?_⟩
    refine zCc E rfl rfl rfl (by decide) rfl Tryz.func130 rfl (by kernel_rfl) rfl (zIe s.e 11 (by omega) _) ?_
    rintro v44 w ⟨rfl, hT⟩; clear E a; intro a E
    have S := S.quiet hT
    refine ⟨S.stab.sub (by first | (simp; done) | (simp +contextual; done) | (simp [*]; done)), ?_⟩
    refine zm E rfl (fun w h => zFe E rfl rfl rfl rfl) ?_; clear E a; intro a E
    refine zCc E rfl rfl rfl (by decide) rfl Tryz.func130 rfl (by kernel_rfl) rfl (zIe s.e 25 (by omega) _) ?_
    rintro v47 w ⟨rfl, hT⟩; clear E a; intro a E
    have S := S.quiet hT
    refine ⟨S.stab.sub (by first | (simp; done) | (simp +contextual; done) | (simp [*]; done)), ?_⟩
    refine zm E rfl (fun w h => zFe E rfl rfl rfl rfl) ?_; clear E a; intro a E
    iterate 4 (refine zm E rfl (fun w h => zBu E rfl rfl rfl (by first | exact wa1 (by omega) | exact w_in (by omega) | exact zBt (by omega) | exact rfl)) ?_; clear E a; intro a E)
    refine zm E rfl (fun w h => zAd E rfl rfl) ?_; clear E a; intro a E
    refine zBw ?_
    refine zAf hK ?_; clear hK; clear K
    refine wp_seq_k ?_; intro K hK
    refine zAb ?_
    refine zp E (zAe E rfl rfl) ?_; clear E a; intro a E
    refine zAp E rfl rfl (by decide) rfl Tryz.func130 rfl (by kernel_rfl) rfl (zIe s.a 2 (by omega) _) ?_
    rintro v66 w ⟨rfl, hT⟩; clear E a; intro a E
    have S := S.quiet hT
    refine zp E (zAe E rfl rfl) ?_; clear E a; intro a E
    refine zAp E rfl rfl (by decide) rfl Tryz.func130 rfl (by kernel_rfl) rfl (zIe s.a 13 (by omega) _) ?_
    rintro v68 w ⟨rfl, hT⟩; clear E a; intro a E
    have S := S.quiet hT
    refine zp E (zFe E rfl rfl rfl rfl) ?_; clear E a; intro a E
    refine zp E (zAe E rfl rfl) ?_; clear E a; intro a E
    refine zAp E rfl rfl (by decide) rfl Tryz.func130 rfl (by kernel_rfl) rfl (zIe s.a 22 (by omega) _) ?_
    rintro v71 w ⟨rfl, hT⟩; clear E a; intro a E
    have S := S.quiet hT
    refine zp E (zFe E rfl rfl rfl rfl) ?_; clear E a; intro a E
    iterate 2 (refine zp E (zAe E rfl rfl) ?_; clear E a; intro a E)
    refine zp E (zHi E rfl rfl rfl rfl) ?_; clear E a; intro a E
    iterate 2 (refine zp E (zAe E rfl rfl) ?_; clear E a; intro a E)
    refine zp E (zHi E rfl rfl rfl rfl) ?_; clear E a; intro a E
    refine zp E (zFe E rfl rfl rfl rfl) ?_; clear E a; intro a E
    iterate 2 (refine zp E (zAe E rfl rfl) ?_; clear E a; intro a E)
    refine zp E (zHi E rfl rfl rfl rfl) ?_; clear E a; intro a E
    refine zp E (zFe E rfl rfl rfl rfl) ?_; clear E a; intro a E
    refine zp E (zBu E rfl rfl rfl (by first | exact wa1 (by omega) | exact w_in (by omega) | exact zBt (by omega) | exact rfl)) ?_; clear E a; intro a E
    refine zp E (zAd E rfl rfl) ?_; clear E a; intro a E
    refine wpList_nil ?_
    refine zAf hK ?_; clear hK; clear K
    refine zAb ?_
    iterate 5 (refine zp E (zAe E rfl rfl) ?_; clear E a; intro a E)
    refine zp E (zBu E rfl rfl rfl (by first | exact wa1 (by omega) | exact w_in (by omega) | exact zBt (by omega) | exact rfl)) ?_; clear E a; intro a E
    iterate 5 (refine zp E (zAe E rfl rfl) ?_; clear E a; intro a E)
    refine zp E (zBu E rfl rfl rfl (by first | exact wa1 (by omega) | exact w_in (by omega) | exact zBt (by omega) | exact rfl)) ?_; clear E a; intro a E
    iterate 8 (refine zp E (zAd E rfl rfl) ?_; clear E a; intro a E)
    refine wpList_nil ?_
    refine zBi ?_
    refine zAf hK ?_; clear hK; clear K
    replace E := E.keep (e' := [(2, _), (4, _), (5, _), (6, _), (7, _), (8, _), (9, _), (10, _), (11, _), (12, _), (13, _), (14, _), (15, _), (16, _), (35, _), (36, _), (37, _), (38, _), (39, _), (40, _), (41, _), (42, _), (43, _), (44, _), (45, _), (46, _), (47, _), (48, _), (49, _), (50, _), (51, _), (52, _), (53, _), (54, _), (55, _), (56, _), (57, _), (58, _), (59, _), (60, _), (61, _), (62, _), (63, _), (64, _), (65, _), (66, _), (67, _), (68, _), (69, _), (70, _), (71, _), (72, _), (73, _), (74, _), (75, _), (76, _), (77, _), (78, _), (79, _), (80, _), (81, _), (82, _), (83, _), (84, _), (85, _), (86, _), (87, _), (88, _), (89, _), (90, _), (91, _), (92, _), (93, _), (94, _), (95, _), (96, _)]) (zAa rfl (zAa rfl (zAa rfl (zAa rfl (zAa rfl (zAa rfl (zAa rfl (zAa rfl (zAa rfl (zAa rfl (zAa rfl (zAa rfl (zAa rfl (zAa rfl (zAa rfl (zAa rfl (zAa rfl (zAa rfl (zAa rfl (zAa rfl (zAa rfl (zAa rfl (zAa rfl (zAa rfl (zAa rfl (zAa rfl (zAa rfl (zAa rfl (zAa rfl (zAa rfl (zAa rfl (zAa rfl (zAa rfl (zAa rfl (zAa rfl (zAa rfl (zAa rfl (zAa rfl (zAa rfl (zAa rfl (zAa rfl (zAa rfl (zAa rfl (zAa rfl (zAa rfl (zAa rfl (zAa rfl (zAa rfl (zAa rfl (zAa rfl (zAa rfl (zAa rfl (zAa rfl (zAa rfl (zAa rfl (zAa rfl (zAa rfl (zAa rfl (zAa rfl (zAa rfl (zAa rfl (zAa rfl (zAa rfl (zAa rfl (zAa rfl (zAa rfl (zAa rfl (zAa rfl (zAa rfl (zAa rfl (zAa rfl (zAa rfl (zAa rfl (zAa rfl (zAa rfl (zAa rfl (zAm)))))))))))))))))))))))))))))))))))))))))))))))))))))))))))))))))))))))))))))
    refine zAb ?_
    refine zp E (zBu E rfl rfl rfl (by first | exact zCl (y := 1) (by omega) | exact w_in (by omega) | exact zBt (by omega) | exact rfl)) ?_; clear E a; intro a E
    refine zp E (zAe E rfl rfl) ?_; clear E a; intro a E
    refine wpList_nil ?_
    refine zBq ?_
    exact ⟨_, by omega, i + 1, s.step (shaK.getD i 0) (ws.getD i 0), rfl, by omega, by rw [hs]; rfl, S, E.keep (zAa rfl (zAa rfl (zAa rfl (zAa rfl (zAa rfl (zAa rfl (zAa rfl (zAa rfl (zAa rfl (zAa rfl (zAa rfl (zAa rfl zAm))))))))))))⟩
  · replace hb := Nrm.nrm hb
    refine wp_exit ?_
    refine zBc ?_; clear hK; clear K
    refine zBc ?_
    refine zCj ?_
    refine zAf hK ?_; clear hK; clear K
    iterate 2 (refine wp_seq_k ?_; intro K hK)
    obtain rfl : i = 64 := by omega
    refine zAb ?_
    iterate 8 (refine zp E (zAe E rfl rfl) ?_; clear E a; intro a E)
    refine zp E (zCh (cells := [_, _, _, _, _, _, _, _]) E rfl rfl rfl) ?_; clear E a; intro a E
    refine zp E (zAe E rfl rfl) ?_; clear E a; intro a E
    refine wpList_nil ?_
    refine zAf hK ?_; clear hK; clear K
    refine wp_block ?_
    refine wp_loop_ghost (fun (m : Nat) (a : Act) (w' : World) => ∃ i, m = 8 - i ∧ i ≤ 8 ∧ St w0 As w' ([(b2, cel (u32s (addL s0 s i)) 122)] :: [(b4, cel (List.replicate 8 (.int .u32 0)) 122)] :: [(b3, cel (u32s ws) 127)] :: As) ∧ Fr a 119 [(2, ptr b2), (4, ptr b4), (106, .agg (u32s s.l).toArray), (107, .int .i64 i)]) (8 - 0) ?_ ?_
    · exact ⟨0, rfl, by omega, by rw [addL_zero]; exact S.front3 (by repeat (first | exact pk1 | apply zAc)) (B := [(b4, _)]) (by repeat (first | exact pk1 | apply zAc)) (C := [(b3, _)]) (by repeat (first | exact pk1 | apply zAc)), E.keep (zAa rfl (zAa rfl (zAa rfl (zAa rfl zAm))))⟩
    clear E; clear a; (try clear S); rintro m a w ⟨i, rfl, hi, S, E⟩
    refine wp_seq_k ?_; intro K hK
    refine zAb ?_
    refine zp E (zCn E rfl rfl rfl) ?_; clear E a; intro a E
    refine wpList_nil ?_
    refine zAf hK ?_; clear hK; clear K
    refine wp_seq_k ?_; intro K hK
    refine zBf E rfl (fun hb => ?_) (fun hb => ?_)
    · replace hb := Nrm.nrm hb
      refine wp_skip ?_
      refine zAf hK ?_; clear hK; clear K
      refine wp_seq_k ?_; intro K hK
      refine wp_block ?_
      refine wp_seq_k ?_; intro K hK
      refine zAb ?_
      refine zp E (zAe E rfl rfl) ?_; clear E a; intro a E
      refine zp E (zJi E rfl rfl rfl rfl rfl rfl rfl (by omega) (v := .int .u32 (s.l.getD i 0)) (by rw [List.getElem?_toArray]; exact s8_at s (by omega))) ?_; clear E a; intro a E
      iterate 2 (refine zp E (zAd E rfl rfl) ?_; clear E a; intro a E)
      refine wpList_nil ?_
      refine zAf hK ?_; clear hK; clear K
      refine zAb ?_
      refine zp E (zAe E rfl rfl) ?_; clear E a; intro a E
      refine zp E (zCw (i := i) E rfl rfl rfl rfl rfl rfl (by omega)) ?_; clear E a; intro a E
      refine zp E (zAj E rfl rfl rfl (zDf (S.get (by repeat (first | exact pk1 | apply zAc))) (v := .int .u32 (s0.l.getD i 0)) (by rw [u32_at _ (by rw [zHw]; omega), addL_at s0 s (by omega)]))) ?_; clear E a; intro a E
      refine zp E (zAe E rfl rfl) ?_; clear E a; intro a E
      refine zp E (zBu E rfl rfl rfl (by first | exact wa1 (by omega) | exact w_in (by omega) | exact zBt (by omega) | exact rfl)) ?_; clear E a; intro a E
      refine zp E (zCw (i := i) E rfl rfl rfl rfl rfl rfl (by omega)) ?_; clear E a; intro a E
      refine zAn rfl (zBo E S rfl rfl rfl rfl rfl rfl (by repeat (first | exact pk1 | apply zAc)) (by rw [List.length_map, zHw]; omega) ?_); clear E S a; intro a w E S; try dsimp only [List.set] at S
      refine wpList_nil ?_
      refine zBi ?_
      refine zAf hK ?_; clear hK; clear K
      refine zAb ?_
      refine zp E (zBu E rfl rfl rfl (by first | exact zCl (y := 1) (by omega) | exact w_in (by omega) | exact zBt (by omega) | exact rfl)) ?_; clear E a; intro a E
      refine zp E (zAe E rfl rfl) ?_; clear E a; intro a E
      refine wpList_nil ?_
      refine zBq ?_
      exact ⟨_, by omega, i + 1, rfl, by omega, by rw [← addL_set s0 s (by omega)]; exact S, E.keep (zAa rfl (zAa rfl (zAa rfl (zAa rfl zAm))))⟩
    · replace hb := Nrm.nrm hb
      refine wp_exit ?_
      refine zBc ?_; clear hK; clear K
      refine zBc ?_
      refine zCj ?_
      refine zAf hK ?_; clear hK; clear K
      refine wp_seq_k ?_; intro K hK
      obtain rfl : i = 8 := by omega
      rw [addL_end, hs] at S
      refine zAb ?_
      refine zp E (zGc E rfl rfl rfl (S.get (by repeat (first | exact pk1 | apply zAc))) rfl) ?_; clear E a; intro a E
      refine zAn rfl (zGt E S rfl rfl rfl rfl (zIp _) rfl rfl (by repeat (first | exact pk1 | apply zAc)) (by rfl) ?_); clear E S a; intro a w E S
      refine wpList_nil ?_
      refine zAf hK ?_; clear hK; clear K
      refine wp_ret ?_
      refine zGs E rfl rfl (S.get (by repeat (first | exact pk1 | apply zAc))) rfl ?_
      exact ⟨_, rfl, rfl, S.tail3.tr⟩
theorem zJw (s : S8) (b3 : Nat) (i : Nat) (hi : i + 1 < 8) (w0 : World) (H : Hp w0 [[(b3, cel (u32s s.l) 122)]]) :
    Ret Tryz.prog 120 #[.int .i64 i, ptr b3] w0 fun u w' => u = .int .u64 (pairN (s.l.getD i 0) (s.l.getD (i + 1) 0)) ∧ Trs w0 w' [[(b3, cel (u32s s.l) 122)]] [[(b3, cel (u32s s.l) 122)]] := by
  have S := St.begin H
  refine zCr 15 Tryz.func120 rfl rfl (by decide) ?_; intro a E
  refine wp_seq_k ?_; intro K hK
  refine zAb ?_
  refine zp E (zAd E rfl rfl) ?_; clear E a; intro a E
  refine wpList_nil ?_
  refine zAf hK ?_; clear hK; clear K
  refine wp_seq_k ?_; intro K hK
  refine zBz S (.ofL [(0, 0), (1, 0), (2, 0), (3, 0), (4, 0), (5, 0), (6, 0), (7, 0), (8, 0), (9, 0), (10, 0), (11, 0)]) (by kernel_rfl) (by kernel_rfl) ?_
  clear S; intro w S
  refine zm E rfl (fun w h => zAe E rfl rfl) ?_; clear E a; intro a E
  refine zm E rfl (fun w h => zCw (i := i) E rfl rfl rfl rfl rfl rfl (by omega)) ?_; clear E a; intro a E
  refine zm E rfl (fun w h => zAj E rfl rfl rfl (zDf (h.one (by repeat (first | exact mm1 | assumption | apply List.Mem.tail))) (s8_at s (i := i) (by omega)))) ?_; clear E a; intro a E
  refine zm E rfl (fun w h => zBe E rfl rfl rfl rfl rfl) ?_; clear E a; intro a E
  refine zm E rfl (fun w h => zGm E rfl rfl rfl (by omega) (by simp only [IntKind.bits]; omega) rfl) ?_; clear E a; intro a E
  refine zm E rfl (fun w h => zAe E rfl rfl) ?_; clear E a; intro a E
  refine zm E rfl (fun w h => zBu E rfl rfl rfl (by first | exact zCl (y := 1) (by omega) | exact w_in (by omega) | exact zBt (by omega) | exact rfl)) ?_; clear E a; intro a E
  refine zm E rfl (fun w h => zCw (i := i + 1) E rfl rfl rfl rfl rfl rfl (by omega)) ?_; clear E a; intro a E
  refine zm E rfl (fun w h => zAj E rfl rfl rfl (zDf (h.one (by repeat (first | exact mm1 | assumption | apply List.Mem.tail))) (s8_at s (i := i + 1) (by omega)))) ?_; clear E a; intro a E
  refine zm E rfl (fun w h => zBe E rfl rfl rfl rfl rfl) ?_; clear E a; intro a E
  refine zm E rfl (fun w h => zIg E rfl rfl rfl rfl) ?_; clear E a; intro a E
  refine zm E rfl (fun w h => zAd E rfl rfl) ?_; clear E a; intro a E
  refine zBw ?_
  refine zAf hK ?_; clear hK; clear K
  refine wp_ret ?_
  refine ret1 E rfl rfl ?_
  exact ⟨_, rfl, by rw [pairN_eq]; rfl, S.tr⟩
end Go.Proofs.YtbogecljkaimdaaGreatDoor
namespace Go.Sl
theorem buf_hcap {C : zAy} {T : TypeId} {s m : Nat} {v : Value} {xs : List Value} (h : Buf C T s v m xs) : ∃ ad c, v = .slice ad m c ∧ m ≤ c := by
  obtain ⟨ad, c, rfl⟩ := h.slice
  exact ⟨ad, c, rfl, h.cap_le⟩
theorem pad_zero (b : List UInt8) (z : Nat) : byt (b ++ [128] ++ List.replicate (z + 1) 0) = byt (b ++ [128] ++ List.replicate z 0) ++ [.int .u8 0] := by
  rw [List.replicate_succ', ← List.append_assoc, zDu]; rfl
def padH (b : List UInt8) : List UInt8 := b ++ [128] ++ List.replicate (padZ b.length) 0
theorem zKu (b : List UInt8) : (padH b).length = b.length + 1 + padZ b.length := by simp [padH]; omega
theorem padH_len (b : List UInt8) : padH b ++ lenB (b.length * 8) 8 = padL b := rfl
theorem drop_blk (all : List UInt8) (k : Nat) : ((byt (all.drop (64 * k))).drop (0 * 1)).take ((64 - 0) * 1) = byt (blk all k) := by simp [blk, zFr]
theorem drop_next (all : List UInt8) (k n : Nat) (h : all.length ≤ n + 64 * k + 64) : ((byt (all.drop (64 * k))).drop (64 * 1)).take (n * 1) = byt (all.drop (64 * (k + 1))) := by
  rw [zGn, zFr, List.drop_drop, List.take_of_length_le (by rw [List.length_drop]; omega), show 64 * k + 64 * 1 = 64 * (k + 1) by omega]
end Go.Sl
namespace Go.Proofs.YtbogecljkaimdaaGreatDoor
open Go.Sl
set_option maxRecDepth 10000
set_option maxHeartbeats 1000000 in
theorem sha_ret (D : zAy) (v : Value) (b : List UInt8) (hD : Rd D 1 v b.length (byt b)) (hbl : b.length ≤ 140737488352000) (As : List zAy) (hDA : D ∈ As) (hG : Tab As 2 shaK) (w0 : World) (H : Hp w0 As) :
    Ret Tryz.prog 105 #[v] w0 fun u w' => u = (shaF b).agg ∧ Trs w0 w' As As := by
  have S := (St.begin H).addNil
  have hps := zKt hbl
  have hHl := zKu b
  have hLl := zHc b
  have hL64 := padL_64 b
  obtain ⟨ad0, c0, rfl⟩ := hD.slice
  refine zCx 55 Tryz.func105 rfl rfl (by decide) ?_; intro a E
  refine wp_seq_k ?_; intro K hK
  refine zAb ?_
  refine zAn rfl (zBs E S rfl rfl (by decide) rfl rfl rfl ?_); clear E S a; intro a w b2 E S
  refine wpList_nil ?_
  refine zAf hK ?_; clear hK; clear K
  refine wp_seq_k ?_; intro K hK
  refine zAb ?_
  refine zp E (zCh (cells := [_, _, _, _, _, _, _, _]) E rfl rfl rfl) ?_; clear E a; intro a E
  refine zAn rfl (zBs E S rfl rfl (by decide) rfl rfl rfl ?_); clear E S a; intro a w b3 E S
  refine zAn rfl (zAz E S rfl rfl rfl rfl (by simp [Value.oneCell']) rfl (by repeat (first | exact pk1 | apply zAc)) (by simp) ?_); clear E S a; intro a w E S; simp only [List.take_succ_cons, List.take_zero, List.drop_succ_cons, List.drop_zero, List.cons_append, List.nil_append, List.append_nil, List.length_cons, List.length_nil, Nat.zero_add, Nat.add_zero] at S
  refine wpList_nil ?_
  refine zAf hK ?_; clear hK; clear K
  refine wp_seq_k ?_; intro K hK
  refine zAb ?_
  refine zp E (zAe E rfl rfl) ?_; clear E a; intro a E
  refine zAn rfl (zCq (by' := 1) E S rfl rfl (by decide) rfl rfl (Buf.nil _ _) (by repeat (first | exact pk1 | apply zAc)) (hD.src (S.stab.at (by repeat (first | exact mm1 | assumption | apply List.Mem.tail))) rfl) rfl rfl rfl rfl rfl rfl (by simp only [maxLen]; omega) (by omega) ?_); clear E S a; intro a w v9 C9 E S hB9
  simp only [Nat.zero_add, List.nil_append] at hB9
  refine zAn rfl (zDg (cells := [_]) E S rfl rfl (by decide) rfl rfl rfl rfl rfl (by decide) rfl ?_); clear E S a; intro a w b10 E S
  refine zAn rfl (zCq (by' := 1) E S rfl rfl (by decide) rfl rfl hB9 (by repeat (first | exact pk1 | apply zAc)) ((zEp (g := b10) (T := 5) (xs := [.int .u8 128]) (s := 1) (m := 1) rfl (by simp [Value.oneCell']) (by omega) 1).src (S.stab.at (by repeat (first | exact mm1 | assumption | apply List.Mem.tail))) rfl) rfl rfl rfl rfl rfl rfl (by simp only [maxLen]; omega) (by omega) ?_); clear E S a; intro a w v11 C11 E S hB11
  refine zp E (zAd E rfl rfl) ?_; clear E a; intro a E
  refine wpList_nil ?_
  have S := (S.del (A := [(b10, _)]) (by repeat (first | exact pk1 | apply zAc))).front3 (A := C11) (by repeat (first | exact pk1 | apply zAc)) (B := [(b3, _)]) (by repeat (first | exact pk1 | apply zAc)) (C := [(b2, _)]) (by repeat (first | exact pk1 | apply zAc))
  refine zAf hK ?_; clear hK; clear K
  refine wp_seq_k ?_; intro K hK
  refine wp_block ?_
  refine wp_loop_ghost (fun (m : Nat) (a : Act) (w' : World) => ∃ (z : Nat) (v : Value) (C : zAy), m = padZ b.length - z ∧ z ≤ padZ b.length ∧ Buf C 5 1 v (b.length + 1 + z) (byt (b ++ [128] ++ List.replicate z 0)) ∧ St w0 As w' (C :: [(b3, cel (u32s sha0.l) 122)] :: [(b2, cel [.int .u64 0, .int .u64 0, .int .u64 0, .int .u64 0] 29)] :: As) ∧ Fr a 55 [(0, .slice ad0 b.length c0), (2, ptr b2), (3, ptr b3), (4, v)]) (padZ b.length - 0) ?_ ?_
  · exact ⟨0, v11, C11, rfl, by omega, by rw [List.replicate_zero, List.append_nil, zDu]; exact hB11, S, E.keep (zAa rfl (zAa rfl (zAa rfl (zAa rfl zAm))))⟩
  clear E; clear a; (try clear S); rintro m a w ⟨z, v, C, rfl, hz, hC, S, E⟩
  iterate 2 (refine wp_seq_k ?_; intro K hK)
  obtain ⟨adv, cv, rfl⟩ := hC.slice
  refine zAb ?_
  refine zp E (zAe E rfl rfl) ?_; clear E a; intro a E
  refine zp E (by first | exact zBx E rfl rfl rfl | exact zAx E rfl rfl rfl | exact zAq E rfl rfl rfl) ?_; clear E a; intro a E
  refine zp E (rn_rem E rfl rfl rfl (by decide) (by first | exact wr_lit (y := 64) | exact rfl)) ?_; clear E a; intro a E
  refine zp E (by first | exact zCu E rfl rfl rfl | exact zBg E rfl rfl rfl rfl | exact zBr E rfl rfl rfl rfl | exact zBk E rfl rfl rfl) ?_; clear E a; intro a E
  refine wpList_nil ?_
  refine zAf hK ?_; clear hK; clear K
  refine zBf E rfl (fun hb => ?_) (fun hb => ?_)
  · replace hb := Nrm.nrm hb
    refine wp_skip ?_
    refine zAf hK ?_; clear hK; clear K
    refine wp_block ?_
    refine zAb ?_
    refine zp E (zAe E rfl rfl) ?_; clear E a; intro a E
    refine zAn rfl (zDg (cells := [_]) E S rfl rfl (by decide) rfl rfl rfl rfl rfl (by decide) rfl ?_); clear E S a; intro a w b17 E S
    refine zAn rfl (zCq (by' := 1) E S rfl rfl (by decide) rfl rfl hC (by repeat (first | exact pk1 | apply zAc)) ((zEp (g := b17) (T := 5) (xs := [.int .u8 0]) (s := 1) (m := 1) rfl (by simp [Value.oneCell']) (by omega) 1).src (S.stab.at (by repeat (first | exact mm1 | assumption | apply List.Mem.tail))) rfl) rfl rfl rfl rfl rfl rfl (by simp only [maxLen]; omega) (by omega) ?_); clear E S a; intro a w v18 C18 E S hB18
    refine zp E (zAd E rfl rfl) ?_; clear E a; intro a E
    refine wpList_nil ?_
    refine zBi ?_
    refine zBq ?_
    rw [← pad_zero] at hB18
    exact ⟨_, by unfold padZ at *; omega, z + 1, v18, C18, rfl, by unfold padZ at *; omega, hB18, (S.del (A := [(b17, _)]) (by repeat (first | exact pk1 | apply zAc))).front3 (A := C18) (by repeat (first | exact pk1 | apply zAc)) (B := [(b3, _)]) (by repeat (first | exact pk1 | apply zAc)) (C := [(b2, _)]) (by repeat (first | exact pk1 | apply zAc)), E.keep (zAa rfl (zAa rfl (zAa rfl (zAa rfl zAm))))⟩
  · replace hb := Nrm.nrm hb
    refine wp_exit ?_
    refine zBc ?_; clear hK; clear K
    refine zBc ?_
    refine zCj ?_
    refine zAf hK ?_; clear hK; clear K
    iterate 2 (refine wp_seq_k ?_; intro K hK)
    have hzz : z = padZ b.length := by unfold padZ at *; omega
    subst hzz
    have hC : Buf C 5 1 (.slice adv (b.length + 1 + padZ b.length) cv) (b.length + 1 + padZ b.length) (byt (padH b)) := hC
    refine zAb ?_
    refine zp E (zAd E rfl rfl) ?_; clear E a; intro a E
    refine wpList_nil ?_
    refine zAf hK ?_; clear hK; clear K
    refine wp_block ?_
    refine wp_loop_ghost (fun (m : Nat) (a : Act) (w' : World) => ∃ (k : Nat) (v : Value) (C : zAy), m = 8 - k ∧ k ≤ 8 ∧ Buf C 5 1 v (b.length + 1 + padZ b.length + k) (byt (padH b ++ lenB (b.length * 8) k)) ∧ St w0 As w' (C :: [(b3, cel (u32s sha0.l) 122)] :: [(b2, cel [.int .u64 0, .int .u64 0, .int .u64 0, .int .u64 0] 29)] :: As) ∧ Fr a 55 [(0, .slice ad0 b.length c0), (2, ptr b2), (3, ptr b3), (4, v), (5, .int .i64 (56 - 8 * (k : Int)))]) (8 - 0) ?_ ?_
    · exact ⟨0, _, C, rfl, by omega, by rw [lenB, List.append_nil, Nat.add_zero]; exact hC, S, E.keep (zAa rfl (zAa rfl (zAa rfl (zAa rfl (zAa rfl zAm)))))⟩
    clear E; clear a; (try clear S); rintro m a w ⟨k, v, C, rfl, hk, hC, S, E⟩
    iterate 2 (refine wp_seq_k ?_; intro K hK)
    refine zAb ?_
    refine zp E (zAe E rfl rfl) ?_; clear E a; intro a E
    refine zp E (zEd E rfl rfl rfl) ?_; clear E a; intro a E
    refine wpList_nil ?_
    refine zAf hK ?_; clear hK; clear K
    refine zBf E rfl (fun hb => ?_) (fun hb => ?_)
    · replace hb := Nrm.nrm hb
      refine wp_skip ?_
      refine zAf hK ?_; clear hK; clear K
      refine wp_seq_k ?_; intro K hK
      refine wp_block ?_
      obtain ⟨adv, cv, rfl⟩ := hC.slice
      have hq1 : [UInt8.ofNat (b.length * 8 / 2 ^ (56 - 8 * k))].length = 1 := rfl
      refine zAb ?_
      iterate 2 (refine zp E (zAe E rfl rfl) ?_; clear E a; intro a E)
      refine zp E (by first | exact zBx E rfl rfl rfl | exact zAx E rfl rfl rfl | exact zAq E rfl rfl rfl) ?_; clear E a; intro a E
      refine zp E (by first | exact zBe E rfl rfl rfl rfl (by first | exact wu8 _ | exact zDy (by omega) | exact zDd (by omega) | exact w_in (by omega) | exact zBt (by omega) | exact rfl) | exact zCa E rfl rfl rfl rfl rfl (by assumption) (S.stab.at (by simp))) ?_; clear E a; intro a E
      refine zp E (zFb E rfl rfl rfl (zBt (by omega))) ?_; clear E a; intro a E
      refine zp E (zAe E rfl rfl) ?_; clear E a; intro a E
      refine zp E (zIc E rfl rfl rfl (by omega) (by simp only [IntKind.bits]; omega) rfl) ?_; clear E a; intro a E
      rw [shs (by omega)] at E
      refine zp E (zBe E rfl rfl rfl rfl (w8 _)) ?_; clear E a; intro a E
      refine zAn rfl (zDg (cells := [_]) E S rfl rfl (by decide) rfl rfl rfl rfl rfl (by decide) rfl ?_); clear E S a; intro a w b31 E S
      refine zAn rfl (zCq (by' := 1) E S rfl rfl (by decide) rfl rfl hC (by repeat (first | exact pk1 | apply zAc)) ((zIr b31 [UInt8.ofNat (b.length * 8 / 2 ^ (56 - 8 * k))] 5 (by simp)).rd.src (S.stab.at (by repeat (first | exact mm1 | assumption | apply List.Mem.tail))) rfl) rfl rfl rfl rfl rfl rfl (by simp only [maxLen]; omega) (by omega) ?_); clear E S a; intro a w v32 C32 E S hB32
      refine zp E (zAd E rfl rfl) ?_; clear E a; intro a E
      refine wpList_nil ?_
      refine zBi ?_
      refine zAf hK ?_; clear hK; clear K
      refine zAb ?_
      refine zp E (zAe E rfl rfl) ?_; clear E a; intro a E
      refine zp E (zDs E rfl rfl rfl (w_in (by omega))) ?_; clear E a; intro a E
      refine zp E (zAd E rfl rfl) ?_; clear E a; intro a E
      refine wpList_nil ?_
      refine zBq ?_
      rw [show (56 - 8 * (k : Int)) - 8 = 56 - 8 * ((k + 1 : Nat) : Int) by omega] at E
      rw [← zDu, List.append_assoc, ← lenB_succ] at hB32
      exact ⟨_, by omega, k + 1, v32, C32, rfl, by omega, hB32, (S.del (A := [(b31, _)]) (by repeat (first | exact pk1 | apply zAc))).front3 (A := C32) (by repeat (first | exact pk1 | apply zAc)) (B := [(b3, _)]) (by repeat (first | exact pk1 | apply zAc)) (C := [(b2, _)]) (by repeat (first | exact pk1 | apply zAc)), E.keep (zAa rfl (zAa rfl (zAa rfl (zAa rfl (zAa rfl zAm)))))⟩
    · replace hb := Nrm.nrm hb
      refine wp_exit ?_
      refine zBc ?_; clear hK; clear K
      refine zBc ?_
      refine zCj ?_
      refine zAf hK ?_; clear hK; clear K
      refine wp_seq_k ?_; intro K hK
      refine wp_block ?_
      refine wp_loop_ghost (fun (m : Nat) (a : Act) (w' : World) => ∃ (j : Nat) (ad : Option Addr) (c : Nat), m = (padL b).length / 64 - j ∧ j ≤ (padL b).length / 64 ∧ (padL b).length - 64 * j ≤ c ∧ Rd C 1 (.slice ad ((padL b).length - 64 * j) c) ((padL b).length - 64 * j) (byt ((padL b).drop (64 * j))) ∧ St w0 As w' ([(b3, cel (u32s (shaH (padL b) j).l) 122)] :: C :: [(b2, cel [.int .u64 0, .int .u64 0, .int .u64 0, .int .u64 0] 29)] :: As) ∧ Fr a 55 [(2, ptr b2), (3, ptr b3), (4, .slice ad ((padL b).length - 64 * j) c)]) ((padL b).length / 64 - 0) ?_ ?_
      · obtain rfl : k = 8 := (by omega); rw [padH_len] at hC; obtain ⟨adv, cv, rfl, hcv⟩ := buf_hcap hC; have hlen : b.length + 1 + padZ b.length + 8 = (padL b).length - 64 * 0 := (by omega); rw [hlen] at hC E hcv; exact ⟨0, adv, cv, rfl, by omega, hcv, by rw [Nat.mul_zero, List.drop_zero]; exact hC.rd, S.front2 (by repeat (first | exact pk1 | apply zAc)) (by repeat (first | exact pk1 | apply zAc)), E.keep (zAa rfl (zAa rfl (zAa rfl zAm)))⟩
      clear E; clear a; (try clear S); rintro m a w ⟨j, ad, c, rfl, hj, hc, hR, S, E⟩
      iterate 2 (refine wp_seq_k ?_; intro K hK)
      refine zAb ?_
      refine zp E (zAe E rfl rfl) ?_; clear E a; intro a E
      refine zp E (by first | exact zBx E rfl rfl rfl | exact zAx E rfl rfl rfl | exact zAq E rfl rfl rfl) ?_; clear E a; intro a E
      refine zp E (zDm E rfl rfl rfl) ?_; clear E a; intro a E
      refine wpList_nil ?_
      refine zAf hK ?_; clear hK; clear K
      refine zBf E rfl (fun hb => ?_) (fun hb => ?_)
      · replace hb := Nrm.nrm hb
        refine wp_skip ?_
        refine zAf hK ?_; clear hK; clear K
        refine wp_seq_k ?_; intro K hK
        refine wp_block ?_
        have hjl : 64 * j + 64 ≤ (padL b).length := by omega
        obtain ⟨ad2, hs2, hR2⟩ := hR.cutc (lo := 0) (hi := 64) (by omega) (by omega) (by omega)
        rw [drop_blk] at hR2
        obtain ⟨g2, off2, rfl⟩ := hR2.addr (by omega)
        have hbk := blk_length (padL b) hjl
        refine zBz S (.ofL [(0, 0), (1, 0), (2, 0), (3, 0), (4, 0), (5, 1), (6, 1), (7, 3)]) (by kernel_rfl) (by kernel_rfl) ?_
        clear S; intro w S
        refine zm E rfl (fun w h => zGc E rfl rfl rfl (h.one (by repeat (first | exact mm1 | assumption | apply List.Mem.tail))) rfl) ?_; clear E a; intro a E
        refine zm E rfl (fun w h => zAe E rfl rfl) ?_; clear E a; intro a E
        refine zm E rfl (fun w h => zFy (s := 1) (hi := 64) E rfl rfl rfl rfl rfl rfl (by omega)) ?_; clear E a; intro a E
        rw [hs2] at E
        refine zm E rfl (fun w h => rn_s2a E rfl rfl rfl (by omega)) ?_; clear E a; intro a E
        refine zm E rfl (fun w h => zDo (vs := byt (blk (padL b) j)) E rfl rfl rfl (by rw [zEk, hbk]; rfl) (hR2.cells (h.at (by repeat (first | exact mm1 | assumption | apply List.Mem.tail))) rfl)) ?_; clear E a; intro a E
        refine zCc E rfl rfl rfl (by decide) rfl Tryz.func119 rfl (by kernel_rfl) rfl (schedule_ret (blk (padL b) j) hbk _) ?_
        rintro v43 w ⟨rfl, hT⟩; clear E a; intro a E
        have S := S.quiet hT
        refine ⟨S.stab.sub (by first | (simp; done) | (simp +contextual; done) | (simp [*]; done)), ?_⟩
        refine zCc E rfl rfl rfl (by decide) rfl Tryz.func118 rfl (by kernel_rfl) rfl (mixed_ret (shaH (padL b) j) (wsN (blk (padL b) j) 64) (zEr _ _) As hG _ S.tail3.hp) ?_
        rintro v44 w ⟨rfl, hT⟩; clear E a; intro a E
        have S := St.under [_, _, _] S hT
        refine ⟨S.stab.sub (by first | (simp; done) | (simp +contextual; done) | (simp [*]; done)), ?_⟩
        refine zCk rfl rfl (zGt E S rfl rfl rfl rfl (zIp _) rfl rfl (by repeat (first | exact pk1 | apply zAc)) (by rfl) ?_); clear E S a; intro a w E S
        refine zBw ?_
        refine zBi ?_
        refine zAf hK ?_; clear hK; clear K
        obtain ⟨ad3, hs3, hR3⟩ := hR.cutc (lo := 64) (hi := (padL b).length - 64 * j) (by omega) (by omega) (by omega)
        rw [drop_next (padL b) j ((padL b).length - 64 * j - 64) (by omega), show (padL b).length - 64 * j - 64 = (padL b).length - 64 * (j + 1) by omega] at hR3
        rw [show (padL b).length - 64 * j - 64 = (padL b).length - 64 * (j + 1) by omega] at hs3
        refine zAb ?_
        refine zp E (zAe E rfl rfl) ?_; clear E a; intro a E
        refine zp E (zIx (s := 1) (lo := 64) E rfl rfl rfl rfl rfl rfl (by omega)) ?_; clear E a; intro a E
        rw [hs3] at E
        refine zp E (zAd E rfl rfl) ?_; clear E a; intro a E
        refine wpList_nil ?_
        refine zBq ?_
        exact ⟨_, by omega, j + 1, ad3, c - 64, rfl, by omega, by omega, hR3, S, E.keep (zAa rfl (zAa rfl (zAa rfl zAm)))⟩
      · replace hb := Nrm.nrm hb
        refine wp_exit ?_
        refine zBc ?_; clear hK; clear K
        refine zBc ?_
        refine zCj ?_
        refine zAf hK ?_; clear hK; clear K
        refine wp_seq_k ?_; intro K hK
        obtain ⟨hh, hhe⟩ : ∃ hh, hh = shaH (padL b) ((padL b).length / 64) := ⟨_, rfl⟩
        obtain rfl : j = (padL b).length / 64 := by omega
        rw [← hhe] at S
        refine zAb ?_
        refine zp E (zEw E rfl rfl ⟨_, rfl⟩) ?_; clear E a; intro a E
        refine zp E (zAd E rfl rfl) ?_; clear E a; intro a E
        refine wpList_nil ?_
        refine zAf hK ?_; clear hK; clear K
        refine wp_seq_k ?_; intro K hK
        refine zAb ?_
        refine zp E (zAe E rfl rfl) ?_; clear E a; intro a E
        refine zDh E rfl rfl (by decide) rfl rfl Tryz.func120 rfl (by kernel_rfl) rfl (zJw hh b3 0 (by omega) _ (S.hp.sel (zAk (by repeat (first | exact pk1 | apply zAc)) (zAr _)))) ?_
        rintro v47 w ⟨rfl, hT⟩; clear E a; intro a E
        have S := S.call1 (zAk (by repeat (first | exact pk1 | apply zAc)) (zAr _)) hT
        refine zp E (zAe E rfl rfl) ?_; clear E a; intro a E
        refine zDh E rfl rfl (by decide) rfl rfl Tryz.func120 rfl (by kernel_rfl) rfl (zJw hh b3 2 (by omega) _ (S.hp.sel (zAk (by repeat (first | exact pk1 | apply zAc)) (zAr _)))) ?_
        rintro v49 w ⟨rfl, hT⟩; clear E a; intro a E
        have S := S.call1 (zAk (by repeat (first | exact pk1 | apply zAc)) (zAr _)) hT
        refine zp E (zAe E rfl rfl) ?_; clear E a; intro a E
        refine zDh E rfl rfl (by decide) rfl rfl Tryz.func120 rfl (by kernel_rfl) rfl (zJw hh b3 4 (by omega) _ (S.hp.sel (zAk (by repeat (first | exact pk1 | apply zAc)) (zAr _)))) ?_
        rintro v51 w ⟨rfl, hT⟩; clear E a; intro a E
        have S := S.call1 (zAk (by repeat (first | exact pk1 | apply zAc)) (zAr _)) hT
        refine zp E (zAe E rfl rfl) ?_; clear E a; intro a E
        refine zDh E rfl rfl (by decide) rfl rfl Tryz.func120 rfl (by kernel_rfl) rfl (zJw hh b3 6 (by omega) _ (S.hp.sel (zAk (by repeat (first | exact pk1 | apply zAc)) (zAr _)))) ?_
        rintro v53 w ⟨rfl, hT⟩; clear E a; intro a E
        have S := S.call1 (zAk (by repeat (first | exact pk1 | apply zAc)) (zAr _)) hT
        refine zp E (zCh (cells := [_, _, _, _]) E rfl rfl rfl) ?_; clear E a; intro a E
        refine zAn rfl (zAz E S rfl rfl rfl rfl (by simp [Value.oneCell']) rfl (by repeat (first | exact pk1 | apply zAc)) (by simp) ?_); clear E S a; intro a w E S; simp only [List.take_succ_cons, List.take_zero, List.drop_succ_cons, List.drop_zero, List.cons_append, List.nil_append, List.append_nil, List.length_cons, List.length_nil, Nat.zero_add, Nat.add_zero] at S
        refine wpList_nil ?_
        refine zAf hK ?_; clear hK; clear K
        refine wp_ret ?_
        refine zGs E rfl rfl (S.get (by repeat (first | exact pk1 | apply zAc))) rfl ?_
        exact ⟨_, rfl, by rw [shaF, ← hhe]; rfl, S.tail3.tr⟩
end Go.Proofs.YtbogecljkaimdaaGreatDoor
namespace Go.Sl
section
variable {P : Program} {a : Act} {o : Oper} {n : Nat} {e : List (Nat × Value)} {x y : Operand} {w : World}
theorem zKv (E : Fr a n e) {t el : TypeId} {b l c i : Nat} {k : IntKind} {q : Int} (ho : o.op = .indexAddr t x y) (hx : ev e x = some (.slice (some ⟨b, 0, none⟩) l c)) (hy : ev e y = some (.int k q))
    (ht : P.underlying t = some (.slice el)) (hs : (P.info? el).map (·.size) = some 1) (hq : q = (i : Int)) (hi : i < l) : zBn P o a w (.pointer (some ⟨b, i, none⟩)) w := by
  have h := zBv (P := P) (w := w) E ho hx hy ht hs hq hi
  rwa [Nat.zero_add, Nat.mul_one] at h
end
theorem Tab.cells {As : List zAy} {g : Nat} {l : List Int} {w : World} (h : Tab As g l) (S : Stab As w) : ∀ i u, (u32s l)[i]? = some u → w.cell? ⟨g, 0 + i, none⟩ = some u := fun i u hu => by
  obtain ⟨G, hG, T, fr, hm⟩ := h
  rw [Nat.zero_add]
  exact zDf (S G hG _ hm) hu
theorem Tab.sub {As Bs : List zAy} {g : Nat} {l : List Int} (h : Tab As g l) (k : ∀ C ∈ As, C ∈ Bs) : Tab Bs g l := by
  obtain ⟨G, hG, r⟩ := h; exact ⟨G, k G hG, r⟩
theorem one8 {a b c d e f g h : Int} : ∀ u ∈ [Value.int .u32 a, .int .u32 b, .int .u32 c, .int .u32 d, .int .u32 e, .int .u32 f, .int .u32 g, .int .u32 h], u.oneCell' = true := fun u hu => by
  simp only [List.mem_cons, List.not_mem_nil, or_false] at hu
  rcases hu with rfl | rfl | rfl | rfl | rfl | rfl | rfl | rfl <;> rfl
theorem shs2 {n k : Nat} (hk : k ≤ 7) : ((n : Int) * 8) / 2 ^ (8 * (7 - (k : Int))).toNat = ((n * 8 / 2 ^ (56 - 8 * k) : Nat) : Int) := by
  rw [show (8 * (7 - (k : Int))).toNat = 56 - 8 * k by omega]; simp
end Go.Sl
namespace Go.Proofs.YtbogecljkaimdaaGreatDoor
open Go.Sl
set_option maxRecDepth 10000
theorem zEl (x k : Int) (hk : 1 ≤ k ∧ k ≤ 31) (w0 : World) : Ret Tryz.prog 113 #[.int .u32 x, .int .u64 k] w0 fun u w' => u = .int .u32 (rot x k) ∧ Trs w0 w' [] [] := by
  have S := St.begin (hp_nil w0)
  refine zCr 13 Tryz.func113 rfl rfl (by decide) ?_; intro a E
  refine wp_seq_k ?_; intro K hK
  refine zAb ?_
  refine zp E (zAd E rfl rfl) ?_; clear E a; intro a E
  refine wpList_nil ?_
  refine zAf hK ?_; clear hK; clear K
  refine wp_seq_k ?_; intro K hK
  refine zAb ?_
  iterate 2 (refine zp E (zAe E rfl rfl) ?_; clear E a; intro a E)
  refine zp E (zIc E rfl rfl rfl (by omega) (by simp only [IntKind.bits]; omega) rfl) ?_; clear E a; intro a E
  iterate 2 (refine zp E (zAe E rfl rfl) ?_; clear E a; intro a E)
  refine zp E (zDs E rfl rfl rfl (zBt (by omega))) ?_; clear E a; intro a E
  refine zp E (zGm E rfl rfl rfl (by omega) (by simp only [IntKind.bits]; omega) rfl) ?_; clear E a; intro a E
  refine zp E (zIg E rfl rfl rfl rfl) ?_; clear E a; intro a E
  refine zp E (zAd E rfl rfl) ?_; clear E a; intro a E
  refine wpList_nil ?_
  refine zAf hK ?_; clear hK; clear K
  refine wp_ret ?_
  refine ret1 E rfl rfl ?_
  exact ⟨_, rfl, rfl, (S.only (Bs := []) (zAr _)).tr⟩
theorem dpad_ret (D : zAy) (v : Value) (b : List UInt8) (hD : Rd D 1 v b.length (byt b)) (hbl : b.length ≤ 140737488352000) (As : List zAy) (hDA : D ∈ As) (w0 : World) (H : Hp w0 As) :
    Ret Tryz.prog 111 #[v] w0 fun u w' => ∃ C, Buf C 5 1 u (padL b).length (byt (padL b)) ∧ Trs w0 w' As (C :: As) := by
  have S := (St.begin H).addNil
  have hps := zKt hbl
  have hHl := zKu b
  have hLl := zHc b
  obtain ⟨ad0, c0, rfl⟩ := hD.slice
  refine zCx 36 Tryz.func111 rfl rfl (by decide) ?_; intro a E
  refine wp_seq_k ?_; intro K hK
  refine zAb ?_
  refine zp E (zAd E rfl rfl) ?_; clear E a; intro a E
  refine wpList_nil ?_
  refine zAf hK ?_; clear hK; clear K
  refine wp_seq_k ?_; intro K hK
  refine zAb ?_
  refine zp E (zAe E rfl rfl) ?_; clear E a; intro a E
  refine zAn rfl (zCq (by' := 1) E S rfl rfl (by decide) rfl rfl (Buf.nil _ _) (by repeat (first | exact pk1 | apply zAc)) (hD.src (S.stab.at (by repeat (first | exact mm1 | assumption | apply List.Mem.tail))) rfl) rfl rfl rfl rfl rfl rfl (by simp only [maxLen]; omega) (by omega) ?_); clear E S a; intro a w v7 C7 E S hB7
  simp only [Nat.zero_add, List.nil_append] at hB7
  refine zp E (zAd E rfl rfl) ?_; clear E a; intro a E
  refine wpList_nil ?_
  refine zAf hK ?_; clear hK; clear K
  refine wp_seq_k ?_; intro K hK
  refine zAb ?_
  refine zp E (zAe E rfl rfl) ?_; clear E a; intro a E
  refine zAn rfl (zDg (cells := [_]) E S rfl rfl (by decide) rfl rfl rfl rfl rfl (by decide) rfl ?_); clear E S a; intro a w b9 E S
  refine zAn rfl (zCq (by' := 1) E S rfl rfl (by decide) rfl rfl hB7 (by repeat (first | exact pk1 | apply zAc)) ((zEp (g := b9) (T := 5) (xs := [.int .u8 128]) (s := 1) (m := 1) rfl (by simp [Value.oneCell']) (by omega) 1).src (S.stab.at (by repeat (first | exact mm1 | assumption | apply List.Mem.tail))) rfl) rfl rfl rfl rfl rfl rfl (by simp only [maxLen]; omega) (by omega) ?_); clear E S a; intro a w v10 C10 E S hB10
  refine zp E (zAd E rfl rfl) ?_; clear E a; intro a E
  refine wpList_nil ?_
  have S := (S.del (A := [(b9, _)]) (by repeat (first | exact pk1 | apply zAc))).front1 (A := C10) (by repeat (first | exact pk1 | apply zAc))
  refine zAf hK ?_; clear hK; clear K
  refine wp_seq_k ?_; intro K hK
  refine wp_block ?_
  refine wp_loop_ghost (fun (m : Nat) (a : Act) (w' : World) => ∃ (z : Nat) (v : Value) (C : zAy), m = padZ b.length - z ∧ z ≤ padZ b.length ∧ Buf C 5 1 v (b.length + 1 + z) (byt (b ++ [128] ++ List.replicate z 0)) ∧ St w0 As w' (C :: As) ∧ Fr a 36 [(0, .slice ad0 b.length c0), (3, v)]) (padZ b.length - 0) ?_ ?_
  · exact ⟨0, v10, C10, rfl, by omega, by rw [List.replicate_zero, List.append_nil, zDu]; exact hB10, S, E.keep (zAa rfl (zAa rfl zAm))⟩
  clear E; clear a; (try clear S); rintro m a w ⟨z, v, C, rfl, hz, hC, S, E⟩
  iterate 2 (refine wp_seq_k ?_; intro K hK)
  obtain ⟨adv, cv, rfl⟩ := hC.slice
  refine zAb ?_
  refine zp E (zAe E rfl rfl) ?_; clear E a; intro a E
  refine zp E (by first | exact zBx E rfl rfl rfl | exact zAx E rfl rfl rfl | exact zAq E rfl rfl rfl) ?_; clear E a; intro a E
  refine zp E (rn_rem E rfl rfl rfl (by decide) (by first | exact wr_lit (y := 64) | exact rfl)) ?_; clear E a; intro a E
  refine zp E (by first | exact zCu E rfl rfl rfl | exact zBg E rfl rfl rfl rfl | exact zBr E rfl rfl rfl rfl | exact zBk E rfl rfl rfl) ?_; clear E a; intro a E
  refine wpList_nil ?_
  refine zAf hK ?_; clear hK; clear K
  refine zBf E rfl (fun hb => ?_) (fun hb => ?_)
  · replace hb := Nrm.nrm hb
    refine wp_skip ?_
    refine zAf hK ?_; clear hK; clear K
    refine wp_block ?_
    refine zAb ?_
    refine zp E (zAe E rfl rfl) ?_; clear E a; intro a E
    refine zAn rfl (zDg (cells := [_]) E S rfl rfl (by decide) rfl rfl rfl rfl rfl (by decide) rfl ?_); clear E S a; intro a w b16 E S
    refine zAn rfl (zCq (by' := 1) E S rfl rfl (by decide) rfl rfl hC (by repeat (first | exact pk1 | apply zAc)) ((zEp (g := b16) (T := 5) (xs := [.int .u8 0]) (s := 1) (m := 1) rfl (by simp [Value.oneCell']) (by omega) 1).src (S.stab.at (by repeat (first | exact mm1 | assumption | apply List.Mem.tail))) rfl) rfl rfl rfl rfl rfl rfl (by simp only [maxLen]; omega) (by omega) ?_); clear E S a; intro a w v17 C17 E S hB17
    refine zp E (zAd E rfl rfl) ?_; clear E a; intro a E
    refine wpList_nil ?_
    refine zBi ?_
    refine zBq ?_
    rw [← pad_zero] at hB17
    exact ⟨_, by unfold padZ at *; omega, z + 1, v17, C17, rfl, by unfold padZ at *; omega, hB17, (S.del (A := [(b16, _)]) (by repeat (first | exact pk1 | apply zAc))).front1 (A := C17) (by repeat (first | exact pk1 | apply zAc)), E.keep (zAa rfl (zAa rfl zAm))⟩
  · replace hb := Nrm.nrm hb
    refine wp_exit ?_
    refine zBc ?_; clear hK; clear K
    refine zBc ?_
    refine zCj ?_
    refine zAf hK ?_; clear hK; clear K
    refine wp_seq_k ?_; intro K hK
    have hzz : z = padZ b.length := by unfold padZ at *; omega
    subst hzz
    have hC : Buf C 5 1 (.slice adv (b.length + 1 + padZ b.length) cv) (b.length + 1 + padZ b.length) (byt (padH b)) := hC
    refine zAb ?_
    refine zp E (zAe E rfl rfl) ?_; clear E a; intro a E
    refine zp E (by first | exact zBx E rfl rfl rfl | exact zAx E rfl rfl rfl | exact zAq E rfl rfl rfl) ?_; clear E a; intro a E
    refine zp E (by first | exact zBe E rfl rfl rfl rfl (by first | exact wu8 _ | exact zDy (by omega) | exact zDd (by omega) | exact w_in (by omega) | exact zBt (by omega) | exact rfl) | exact zCa E rfl rfl rfl rfl rfl (by assumption) (S.stab.at (by simp))) ?_; clear E a; intro a E
    refine zp E (zFb E rfl rfl rfl (zBt (by omega))) ?_; clear E a; intro a E
    refine zp E (zAd E rfl rfl) ?_; clear E a; intro a E
    refine wpList_nil ?_
    refine zAf hK ?_; clear hK; clear K
    iterate 2 (refine wp_seq_k ?_; intro K hK)
    refine zAb ?_
    refine zp E (zAd E rfl rfl) ?_; clear E a; intro a E
    refine wpList_nil ?_
    refine zAf hK ?_; clear hK; clear K
    refine wp_block ?_
    refine wp_loop_ghost (fun (m : Nat) (a : Act) (w' : World) => ∃ (k : Nat) (v : Value) (C : zAy), m = 8 - k ∧ k ≤ 8 ∧ Buf C 5 1 v (b.length + 1 + padZ b.length + k) (byt (padH b ++ lenB (b.length * 8) k)) ∧ St w0 As w' (C :: As) ∧ Fr a 36 [(3, v), (4, .int .u64 ((b.length : Int) * 8)), (5, .int .i64 (7 - (k : Int)))]) (8 - 0) ?_ ?_
    · exact ⟨0, _, C, rfl, by omega, by rw [lenB, List.append_nil, Nat.add_zero]; exact hC, S, E.keep (zAa rfl (zAa rfl (zAa rfl zAm)))⟩
    clear E; clear a; (try clear S); rintro m a w ⟨k, v, C, rfl, hk, hC, S, E⟩
    iterate 2 (refine wp_seq_k ?_; intro K hK)
    refine zAb ?_
    refine zp E (zAe E rfl rfl) ?_; clear E a; intro a E
    refine zp E (zEd E rfl rfl rfl) ?_; clear E a; intro a E
    refine wpList_nil ?_
    refine zAf hK ?_; clear hK; clear K
    refine zBf E rfl (fun hb => ?_) (fun hb => ?_)
    · replace hb := Nrm.nrm hb
      refine wp_skip ?_
      refine zAf hK ?_; clear hK; clear K
      refine wp_seq_k ?_; intro K hK
      refine wp_block ?_
      obtain ⟨adv, cv, rfl⟩ := hC.slice
      have hq1 : [UInt8.ofNat (b.length * 8 / 2 ^ (56 - 8 * k))].length = 1 := rfl
      refine zAb ?_
      iterate 3 (refine zp E (zAe E rfl rfl) ?_; clear E a; intro a E)
      refine zp E (zBe E rfl rfl rfl rfl (zBt (by omega))) ?_; clear E a; intro a E
      refine zp E (zFb E rfl rfl rfl (zBt (by omega))) ?_; clear E a; intro a E
      refine zp E (zIc E rfl rfl rfl (by omega) (by simp only [IntKind.bits]; omega) rfl) ?_; clear E a; intro a E
      rw [shs2 (by omega)] at E
      refine zp E (zBe E rfl rfl rfl rfl (w8 _)) ?_; clear E a; intro a E
      refine zAn rfl (zDg (cells := [_]) E S rfl rfl (by decide) rfl rfl rfl rfl rfl (by decide) rfl ?_); clear E S a; intro a w b33 E S
      refine zAn rfl (zCq (by' := 1) E S rfl rfl (by decide) rfl rfl hC (by repeat (first | exact pk1 | apply zAc)) ((zIr b33 [UInt8.ofNat (b.length * 8 / 2 ^ (56 - 8 * k))] 5 (by simp)).rd.src (S.stab.at (by repeat (first | exact mm1 | assumption | apply List.Mem.tail))) rfl) rfl rfl rfl rfl rfl rfl (by simp only [maxLen]; omega) (by omega) ?_); clear E S a; intro a w v34 C34 E S hB34
      refine zp E (zAd E rfl rfl) ?_; clear E a; intro a E
      refine wpList_nil ?_
      refine zBi ?_
      refine zAf hK ?_; clear hK; clear K
      refine zAb ?_
      refine zp E (zAe E rfl rfl) ?_; clear E a; intro a E
      refine zp E (zDs E rfl rfl rfl (w_in (by omega))) ?_; clear E a; intro a E
      refine zp E (zAd E rfl rfl) ?_; clear E a; intro a E
      refine wpList_nil ?_
      refine zBq ?_
      rw [show (7 - (k : Int)) - 1 = 7 - ((k + 1 : Nat) : Int) by omega] at E
      rw [← zDu, List.append_assoc, ← lenB_succ] at hB34
      exact ⟨_, by omega, k + 1, v34, C34, rfl, by omega, hB34, (S.del (A := [(b33, _)]) (by repeat (first | exact pk1 | apply zAc))).front1 (A := C34) (by repeat (first | exact pk1 | apply zAc)), E.keep (zAa rfl (zAa rfl (zAa rfl zAm)))⟩
    · replace hb := Nrm.nrm hb
      refine wp_exit ?_
      refine zBc ?_; clear hK; clear K
      refine zBc ?_
      refine zCj ?_
      refine zAf hK ?_; clear hK; clear K
      refine wp_seq_k ?_; intro K hK
      refine zAb ?_
      refine zp E (zAe E rfl rfl) ?_; clear E a; intro a E
      refine zp E (zAd E rfl rfl) ?_; clear E a; intro a E
      refine wpList_nil ?_
      refine zAf hK ?_; clear hK; clear K
      refine wp_ret ?_
      refine ret1 E rfl rfl ?_
      obtain rfl : k = 8 := by omega
      rw [padH_len] at hC
      exact ⟨_, rfl, C, by rw [show (padL b).length = b.length + 1 + padZ b.length + 8 by omega]; exact hC, S.tr⟩
theorem words_ret (C : zAy) (v : Value) (b : List UInt8) (hC : Rd C 1 v b.length (byt b)) (hl : b.length = 64) (As : List zAy) (hCA : C ∈ As) (w0 : World) (H : Hp w0 As) :
    Ret Tryz.prog 112 #[v] w0 fun u w' => ∃ g, u = .slice (some ⟨g, 0, none⟩) 64 64 ∧ Trs w0 w' As ([(g, cel (u32s (wsN b 64)) 121)] :: As) := by
  have S := St.begin H
  obtain ⟨ad0, c0, rfl⟩ := hC.slice
  obtain ⟨gc, oc, rfl⟩ := hC.addr (by omega)
  refine zCx 96 Tryz.func112 rfl rfl (by decide) ?_; intro a E
  refine wp_seq_k ?_; intro K hK
  refine zAb ?_
  refine zp E (zAd E rfl rfl) ?_; clear E a; intro a E
  refine wpList_nil ?_
  refine zAf hK ?_; clear hK; clear K
  refine wp_seq_k ?_; intro K hK
  refine zAb ?_
  refine zAn rfl (zJr (by' := 4) E S rfl rfl (by decide) rfl rfl rfl rfl rfl rfl rfl rfl rfl rfl rfl (by decide) (by decide) ?_); clear E S a; intro a w g8 E S
  refine zp E (zAd E rfl rfl) ?_; clear E a; intro a E
  refine wpList_nil ?_
  refine zAf hK ?_; clear hK; clear K
  iterate 2 (refine wp_seq_k ?_; intro K hK)
  refine zAb ?_
  refine zp E (zAd E rfl rfl) ?_; clear E a; intro a E
  refine wpList_nil ?_
  refine zAf hK ?_; clear hK; clear K
  refine wp_block ?_
  refine wp_loop_ghost (fun (m : Nat) (a : Act) (w' : World) => ∃ i, m = 16 - i ∧ i ≤ 16 ∧ St w0 As w' ([(g8, cel (u32s (wsN b i) ++ List.replicate (64 - i) (.int .u32 0)) 121)] :: As) ∧ Fr a 96 [(0, .slice (some ⟨gc, oc, none⟩) b.length c0), (3, .slice (some ⟨g8, 0, none⟩) 64 64), (4, .int .i64 i)]) (16 - 0) ?_ ?_
  · exact ⟨0, rfl, by omega, S, E.keep (zAa rfl (zAa rfl (zAa rfl zAm)))⟩
  clear E; clear a; (try clear S); rintro m a w ⟨i, rfl, hi, S, E⟩
  iterate 2 (refine wp_seq_k ?_; intro K hK)
  refine zAb ?_
  refine zp E (zAe E rfl rfl) ?_; clear E a; intro a E
  refine zp E (zCn E rfl rfl rfl) ?_; clear E a; intro a E
  refine wpList_nil ?_
  refine zAf hK ?_; clear hK; clear K
  refine zBf E rfl (fun hb => ?_) (fun hb => ?_)
  · replace hb := Nrm.nrm hb
    refine wp_skip ?_
    refine zAf hK ?_; clear hK; clear K
    refine wp_seq_k ?_; intro K hK
    refine wp_block ?_
    have hwl := zEr b i
    have hst := ws_step b i
    rw [if_pos (by omega), word_lit b (by omega)] at hst
    refine zBz S (.ofL [(0, 0), (1, 0), (2, 0), (3, 0), (4, 0), (5, 0), (6, 0), (7, 0), (8, 0), (9, 0), (10, 0), (11, 0), (12, 0), (13, 0), (14, 0), (15, 0), (16, 0), (17, 0), (18, 0), (19, 0), (20, 0), (21, 0), (22, 0), (23, 0), (24, 0), (25, 0), (26, 0), (27, 0), (28, 0), (29, 0), (30, 0), (31, 0), (32, 0), (33, 0), (34, 0), (35, 0), (36, 3)]) (by kernel_rfl) (by kernel_rfl) ?_
    clear S; intro w S
    iterate 4 (refine zm E rfl (fun w h => zAe E rfl rfl) ?_; clear E a; intro a E)
    refine zm E rfl (fun w h => zFb E rfl rfl rfl (by first | exact zFp (x := 4) (by omega) | exact zEt (x := 4) (by omega) | exact w_in (by omega) | exact rfl)) ?_; clear E a; intro a E
    refine zm E rfl (fun w h => zBl (i := 4 * i) E rfl rfl rfl rfl rfl rfl (by omega)) ?_; clear E a; intro a E
    refine zm E rfl (fun w h => zAj E rfl rfl rfl (hC.byte (h.at (by repeat (first | exact mm1 | assumption | apply List.Mem.tail))) (i := 4 * i) (by omega))) ?_; clear E a; intro a E
    refine zm E rfl (fun w h => zBe E rfl rfl rfl rfl (w8_32 _)) ?_; clear E a; intro a E
    refine zm E rfl (fun w h => zGm E rfl rfl rfl (by omega) (by simp only [IntKind.bits]; omega) rfl) ?_; clear E a; intro a E
    iterate 2 (refine zm E rfl (fun w h => zAe E rfl rfl) ?_; clear E a; intro a E)
    refine zm E rfl (fun w h => zFb E rfl rfl rfl (by first | exact zFp (x := 4) (by omega) | exact zEt (x := 4) (by omega) | exact w_in (by omega) | exact rfl)) ?_; clear E a; intro a E
    refine zm E rfl (fun w h => zBu E rfl rfl rfl (by first | exact zCl (y := 1) (by omega) | exact w_in (by omega) | exact zBt (by omega) | exact rfl)) ?_; clear E a; intro a E
    refine zm E rfl (fun w h => zBl (i := 4 * i + 1) E rfl rfl rfl rfl rfl rfl (by omega)) ?_; clear E a; intro a E
    refine zm E rfl (fun w h => zAj E rfl rfl rfl (hC.byte (h.at (by repeat (first | exact mm1 | assumption | apply List.Mem.tail))) (i := 4 * i + 1) (by omega))) ?_; clear E a; intro a E
    refine zm E rfl (fun w h => zBe E rfl rfl rfl rfl (w8_32 _)) ?_; clear E a; intro a E
    refine zm E rfl (fun w h => zGm E rfl rfl rfl (by omega) (by simp only [IntKind.bits]; omega) rfl) ?_; clear E a; intro a E
    refine zm E rfl (fun w h => zIg E rfl rfl rfl rfl) ?_; clear E a; intro a E
    iterate 2 (refine zm E rfl (fun w h => zAe E rfl rfl) ?_; clear E a; intro a E)
    refine zm E rfl (fun w h => zFb E rfl rfl rfl (by first | exact zFp (x := 4) (by omega) | exact zEt (x := 4) (by omega) | exact w_in (by omega) | exact rfl)) ?_; clear E a; intro a E
    refine zm E rfl (fun w h => zBu E rfl rfl rfl (by first | exact zCl (y := 2) (by omega) | exact w_in (by omega) | exact zBt (by omega) | exact rfl)) ?_; clear E a; intro a E
    refine zm E rfl (fun w h => zBl (i := 4 * i + 2) E rfl rfl rfl rfl rfl rfl (by omega)) ?_; clear E a; intro a E
    refine zm E rfl (fun w h => zAj E rfl rfl rfl (hC.byte (h.at (by repeat (first | exact mm1 | assumption | apply List.Mem.tail))) (i := 4 * i + 2) (by omega))) ?_; clear E a; intro a E
    refine zm E rfl (fun w h => zBe E rfl rfl rfl rfl (w8_32 _)) ?_; clear E a; intro a E
    refine zm E rfl (fun w h => zGm E rfl rfl rfl (by omega) (by simp only [IntKind.bits]; omega) rfl) ?_; clear E a; intro a E
    refine zm E rfl (fun w h => zIg E rfl rfl rfl rfl) ?_; clear E a; intro a E
    iterate 2 (refine zm E rfl (fun w h => zAe E rfl rfl) ?_; clear E a; intro a E)
    refine zm E rfl (fun w h => zFb E rfl rfl rfl (by first | exact zFp (x := 4) (by omega) | exact zEt (x := 4) (by omega) | exact w_in (by omega) | exact rfl)) ?_; clear E a; intro a E
    refine zm E rfl (fun w h => zBu E rfl rfl rfl (by first | exact zCl (y := 3) (by omega) | exact w_in (by omega) | exact zBt (by omega) | exact rfl)) ?_; clear E a; intro a E
    refine zm E rfl (fun w h => zBl (i := 4 * i + 3) E rfl rfl rfl rfl rfl rfl (by omega)) ?_; clear E a; intro a E
    refine zm E rfl (fun w h => zAj E rfl rfl rfl (hC.byte (h.at (by repeat (first | exact mm1 | assumption | apply List.Mem.tail))) (i := 4 * i + 3) (by omega))) ?_; clear E a; intro a E
    refine zm E rfl (fun w h => zBe E rfl rfl rfl rfl (w8_32 _)) ?_; clear E a; intro a E
    refine zm E rfl (fun w h => zIg E rfl rfl rfl rfl) ?_; clear E a; intro a E
    refine zm E rfl (fun w h => zKv (i := i) E rfl rfl rfl rfl rfl rfl (by omega)) ?_; clear E a; intro a E
    refine zCk rfl rfl (zBo E S rfl rfl rfl rfl rfl rfl (by repeat (first | exact pk1 | apply zAc)) (by rw [List.length_append, List.length_map, List.length_replicate]; omega) ?_); clear E S a; intro a w E S; try dsimp only [List.set] at S
    rw [zHk (u32s (wsN b i)) 64 (.int .u32 0) _ i (by rw [List.length_map, hwl]) (by omega)] at S
    refine zBw ?_
    refine zBi ?_
    refine zAf hK ?_; clear hK; clear K
    refine zAb ?_
    refine zp E (zAe E rfl rfl) ?_; clear E a; intro a E
    refine zp E (zBu E rfl rfl rfl (by first | exact zCl (y := 1) (by omega) | exact w_in (by omega) | exact zBt (by omega) | exact rfl)) ?_; clear E a; intro a E
    refine zp E (zAd E rfl rfl) ?_; clear E a; intro a E
    refine wpList_nil ?_
    refine zBq ?_
    exact ⟨_, by omega, i + 1, rfl, by omega, by rw [hst]; exact S, E.keep (zAa rfl (zAa rfl (zAa rfl zAm)))⟩
  · replace hb := Nrm.nrm hb
    refine wp_exit ?_
    refine zBc ?_; clear hK; clear K
    refine zBc ?_
    refine zCj ?_
    refine zAf hK ?_; clear hK; clear K
    iterate 2 (refine wp_seq_k ?_; intro K hK)
    refine zAb ?_
    refine zp E (zAd E rfl rfl) ?_; clear E a; intro a E
    refine wpList_nil ?_
    refine zAf hK ?_; clear hK; clear K
    refine wp_block ?_
    refine wp_loop_ghost (fun (m : Nat) (a : Act) (w' : World) => ∃ i, m = 64 - i ∧ 16 ≤ i ∧ i ≤ 64 ∧ St w0 As w' ([(g8, cel (u32s (wsN b i) ++ List.replicate (64 - i) (.int .u32 0)) 121)] :: As) ∧ Fr a 96 [(3, .slice (some ⟨g8, 0, none⟩) 64 64), (5, .int .i64 i)]) (64 - 16) ?_ ?_
    · exact ⟨16, rfl, by omega, by omega, by obtain rfl : i = 16 := (by omega); exact S, E.keep (zAa rfl (zAa rfl zAm))⟩
    clear E; clear a; (try clear S); rintro m a w ⟨i, rfl, h16, hi, S, E⟩
    iterate 2 (refine wp_seq_k ?_; intro K hK)
    refine zAb ?_
    refine zp E (zAe E rfl rfl) ?_; clear E a; intro a E
    refine zp E (zCn E rfl rfl rfl) ?_; clear E a; intro a E
    refine wpList_nil ?_
    refine zAf hK ?_; clear hK; clear K
    refine zBf E rfl (fun hb => ?_) (fun hb => ?_)
    · replace hb := Nrm.nrm hb
      refine wp_skip ?_
      refine zAf hK ?_; clear hK; clear K
      refine wp_seq_k ?_; intro K hK
      refine wp_block ?_
      refine wp_seq_k ?_; intro K hK
      have hwl := zEr b i
      have hst := ws_step b i
      rw [if_neg (by omega)] at hst
      refine zAb ?_
      iterate 2 (refine zp E (zAe E rfl rfl) ?_; clear E a; intro a E)
      refine zp E (zDs E rfl rfl rfl (by first | exact zGa (y := 15) (by omega) (by omega) | exact w_in (by omega) | exact zBt (by omega) | exact rfl)) ?_; clear E a; intro a E
      refine zp E (zKv (i := i - 15) E rfl rfl rfl rfl rfl rfl (by omega)) ?_; clear E a; intro a E
      refine zp E (zAj E rfl rfl rfl (zDf (S.get (by repeat (first | exact pk1 | apply zAc))) (ws_at b i (i - 15) _ (by omega)))) ?_; clear E a; intro a E
      refine zp E (zAd E rfl rfl) ?_; clear E a; intro a E
      refine wpList_nil ?_
      refine zAf hK ?_; clear hK; clear K
      refine wp_seq_k ?_; intro K hK
      refine zAb ?_
      iterate 2 (refine zp E (zAe E rfl rfl) ?_; clear E a; intro a E)
      refine zp E (zDs E rfl rfl rfl (by first | exact zGa (y := 2) (by omega) (by omega) | exact w_in (by omega) | exact zBt (by omega) | exact rfl)) ?_; clear E a; intro a E
      refine zp E (zKv (i := i - 2) E rfl rfl rfl rfl rfl rfl (by omega)) ?_; clear E a; intro a E
      refine zp E (zAj E rfl rfl rfl (zDf (S.get (by repeat (first | exact pk1 | apply zAc))) (ws_at b i (i - 2) _ (by omega)))) ?_; clear E a; intro a E
      refine zp E (zAd E rfl rfl) ?_; clear E a; intro a E
      refine wpList_nil ?_
      refine zAf hK ?_; clear hK; clear K
      refine zBz S (.ofL [(0, 0), (1, 0), (2, 0), (3, 0), (4, 0), (5, 0), (6, 0), (7, 0), (9, 0), (12, 0), (13, 0), (16, 0), (17, 0), (18, 0), (19, 0), (20, 0), (22, 0), (24, 0), (27, 0), (28, 0), (8, 1), (10, 1), (11, 0), (14, 0), (15, 0), (21, 0), (23, 1), (25, 1), (26, 0), (29, 0), (30, 0), (31, 0), (32, 3)]) (by kernel_rfl) (by kernel_rfl) ?_
      clear S; intro w S
      iterate 4 (refine zm E rfl (fun w h => zAe E rfl rfl) ?_; clear E a; intro a E)
      refine zm E rfl (fun w h => zDs E rfl rfl rfl (by first | exact zGa (y := 16) (by omega) (by omega) | exact w_in (by omega) | exact zBt (by omega) | exact rfl)) ?_; clear E a; intro a E
      refine zm E rfl (fun w h => zKv (i := i - 16) E rfl rfl rfl rfl rfl rfl (by omega)) ?_; clear E a; intro a E
      refine zm E rfl (fun w h => zAj E rfl rfl rfl (zDf (h.one (by repeat (first | exact mm1 | assumption | apply List.Mem.tail))) (ws_at b i (i - 16) _ (by omega)))) ?_; clear E a; intro a E
      iterate 3 (refine zm E rfl (fun w h => zAe E rfl rfl) ?_; clear E a; intro a E)
      refine zm E rfl (fun w h => zIc E rfl rfl rfl (by omega) (by simp only [IntKind.bits]; omega) rfl) ?_; clear E a; intro a E
      iterate 2 (refine zm E rfl (fun w h => zAe E rfl rfl) ?_; clear E a; intro a E)
      refine zm E rfl (fun w h => zDs E rfl rfl rfl (by first | exact zGa (y := 7) (by omega) (by omega) | exact w_in (by omega) | exact zBt (by omega) | exact rfl)) ?_; clear E a; intro a E
      refine zm E rfl (fun w h => zKv (i := i - 7) E rfl rfl rfl rfl rfl rfl (by omega)) ?_; clear E a; intro a E
      refine zm E rfl (fun w h => zAj E rfl rfl rfl (zDf (h.one (by repeat (first | exact mm1 | assumption | apply List.Mem.tail))) (ws_at b i (i - 7) _ (by omega)))) ?_; clear E a; intro a E
      iterate 3 (refine zm E rfl (fun w h => zAe E rfl rfl) ?_; clear E a; intro a E)
      refine zm E rfl (fun w h => zIc E rfl rfl rfl (by omega) (by simp only [IntKind.bits]; omega) rfl) ?_; clear E a; intro a E
      refine zCc E rfl rfl rfl (by decide) rfl Tryz.func113 rfl (by kernel_rfl) rfl (zEl _ 7 (by omega) _) ?_
      rintro v71 w ⟨rfl, hT⟩; clear E a; intro a E
      have S := S.quiet hT
      refine ⟨S.stab.sub (by first | (simp; done) | (simp +contextual; done) | (simp [*]; done)), ?_⟩
      refine zCc E rfl rfl rfl (by decide) rfl Tryz.func113 rfl (by kernel_rfl) rfl (zEl _ 18 (by omega) _) ?_
      rintro v73 w ⟨rfl, hT⟩; clear E a; intro a E
      have S := S.quiet hT
      refine ⟨S.stab.sub (by first | (simp; done) | (simp +contextual; done) | (simp [*]; done)), ?_⟩
      iterate 2 (refine zm E rfl (fun w h => zFe E rfl rfl rfl rfl) ?_; clear E a; intro a E)
      iterate 2 (refine zm E rfl (fun w h => zBu E rfl rfl rfl (by first | exact wa1 (by omega) | exact w_in (by omega) | exact zBt (by omega) | exact rfl)) ?_; clear E a; intro a E)
      refine zCc E rfl rfl rfl (by decide) rfl Tryz.func113 rfl (by kernel_rfl) rfl (zEl _ 17 (by omega) _) ?_
      rintro v86 w ⟨rfl, hT⟩; clear E a; intro a E
      have S := S.quiet hT
      refine ⟨S.stab.sub (by first | (simp; done) | (simp +contextual; done) | (simp [*]; done)), ?_⟩
      refine zCc E rfl rfl rfl (by decide) rfl Tryz.func113 rfl (by kernel_rfl) rfl (zEl _ 19 (by omega) _) ?_
      rintro v88 w ⟨rfl, hT⟩; clear E a; intro a E
      have S := S.quiet hT
      refine ⟨S.stab.sub (by first | (simp; done) | (simp +contextual; done) | (simp [*]; done)), ?_⟩
      iterate 2 (refine zm E rfl (fun w h => zFe E rfl rfl rfl rfl) ?_; clear E a; intro a E)
      refine zm E rfl (fun w h => zBu E rfl rfl rfl (by first | exact wa1 (by omega) | exact w_in (by omega) | exact zBt (by omega) | exact rfl)) ?_; clear E a; intro a E
      refine zm E rfl (fun w h => zKv (i := i) E rfl rfl rfl rfl rfl rfl (by omega)) ?_; clear E a; intro a E
      refine zCk rfl rfl (zBo E S rfl rfl rfl rfl rfl rfl (by repeat (first | exact pk1 | apply zAc)) (by rw [List.length_append, List.length_map, List.length_replicate]; omega) ?_); clear E S a; intro a w E S; try dsimp only [List.set] at S
      rw [zHk (u32s (wsN b i)) 64 (.int .u32 0) _ i (by rw [List.length_map, hwl]) (by omega)] at S
      refine zBw ?_
      refine zBi ?_
      refine zAf hK ?_; clear hK; clear K
      refine zAb ?_
      refine zp E (zAe E rfl rfl) ?_; clear E a; intro a E
      refine zp E (zBu E rfl rfl rfl (by first | exact zCl (y := 1) (by omega) | exact w_in (by omega) | exact zBt (by omega) | exact rfl)) ?_; clear E a; intro a E
      refine zp E (zAd E rfl rfl) ?_; clear E a; intro a E
      refine wpList_nil ?_
      refine zBq ?_
      exact ⟨_, by omega, i + 1, rfl, by omega, by omega, by rw [hst]; exact S, E.keep (zAa rfl (zAa rfl zAm))⟩
    · replace hb := Nrm.nrm hb
      refine wp_exit ?_
      refine zBc ?_; clear hK; clear K
      refine zBc ?_
      refine zCj ?_
      refine zAf hK ?_; clear hK; clear K
      refine wp_seq_k ?_; intro K hK
      refine zAb ?_
      refine zp E (zAe E rfl rfl) ?_; clear E a; intro a E
      refine zp E (zAd E rfl rfl) ?_; clear E a; intro a E
      refine wpList_nil ?_
      refine zAf hK ?_; clear hK; clear K
      refine wp_ret ?_
      refine ret1 E rfl rfl ?_
      obtain rfl : i = 64 := by omega
      rw [Nat.sub_self, List.replicate_zero, List.append_nil] at S
      exact ⟨_, rfl, g8, rfl, S.tr⟩
end Go.Proofs.YtbogecljkaimdaaGreatDoor
