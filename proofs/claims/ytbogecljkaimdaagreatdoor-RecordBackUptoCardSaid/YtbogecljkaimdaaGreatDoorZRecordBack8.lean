/-
  Texts put together (8).
-/
import Derived.Test.YtbogecljkaimdaaGreatDoorZRecordBack7
namespace Go.Sl
theorem and31 {k : Int} (h : 1 ≤ k ∧ k ≤ 31) : bits .and .u64 (18446744073709551616 - k) 31 = 32 - k := by
  have key : ∀ n : Fin 32, 1 ≤ n.val → bits .and .u64 (18446744073709551616 - (n.val : Int)) 31 = 32 - (n.val : Int) := by decide +kernel
  obtain ⟨n, rfl⟩ : ∃ n : Nat, k = n := ⟨k.toNat, by omega⟩
  exact key ⟨n, by omega⟩ (by show 1 ≤ n; omega)
theorem ws_at (b : List UInt8) (n j : Nat) (r : List Value) (h : j < n) : (u32s (wsN b n) ++ r)[j]? = some (.int .u32 ((wsN b n).getD j 0)) := by
  have hl := zFe b n
  rw [List.getElem?_append_left (by rw [List.length_map]; omega), List.getElem?_map, List.getElem?_eq_getElem (by omega), List.getD, List.getElem?_eq_getElem (by omega)]; rfl
theorem ws_step (b : List UInt8) (n : Nat) : u32s (wsN b (n + 1)) = u32s (wsN b n) ++ [.int .u32 (if n < 16 then word32 b n else wnext (wsN b n) n)] := by rw [wsN, u32s, List.map_append]; rfl
theorem u32_at (l : List Int) {j : Nat} (h : j < l.length) : (u32s l)[j]? = some (.int .u32 (l.getD j 0)) := by
  rw [List.getElem?_map, List.getElem?_eq_getElem h, List.getD, List.getElem?_eq_getElem h]; rfl
theorem word_lit (b : List UInt8) {i : Nat} (h : 4 * i + 3 < b.length) : word32 b i = or32 (or32 (or32 (shl32 (b[4 * i]'(by omega)).toNat 24) (shl32 (b[4 * i + 1]'(by omega)).toNat 16)) (shl32 (b[4 * i + 2]'(by omega)).toNat 8)) (b[4 * i + 3]).toNat := by
  unfold word32; rw [gb_in b (by omega), gb_in b (by omega), gb_in b (by omega), gb_in b h]
def addL (h v : S8) (i : Nat) : List Int := (List.range 8).map fun j => if j < i then w32 (h.l.getD j 0 + v.l.getD j 0) else h.l.getD j 0
theorem zIn (h v : S8) (i : Nat) : (addL h v i).length = 8 := by simp [addL]
theorem addL_at (h v : S8) {i : Nat} (hi : i < 8) : (addL h v i).getD i 0 = h.l.getD i 0 := by
  have : i < (addL h v i).length := by rw [zIn]; exact hi
  rw [List.getD, List.getElem?_eq_getElem this]
  simp [addL]
theorem addL_set (h v : S8) {i : Nat} (hi : i < 8) : (u32s (addL h v i)).set i (.int .u32 (w32 (h.l.getD i 0 + v.l.getD i 0))) = u32s (addL h v (i + 1)) := by
  apply List.ext_getElem?
  intro j
  rw [List.getElem?_set, List.length_map, zIn]
  by_cases hj : i = j
  · subst hj; simp [addL, hi]
  · rw [if_neg hj]
    simp only [u32s, List.getElem?_map, addL]
    by_cases h8 : j < 8
    · rw [List.getElem?_range h8]
      simp only [Option.map_some]
      have : (j < i) ↔ (j < i + 1) := by omega
      simp only [this]
    · rw [List.getElem?_eq_none (l := List.range 8) (by simp; omega)]; rfl
theorem addL_zero (h v : S8) : addL h v 0 = h.l := rfl
theorem addL_end (h v : S8) : addL h v 8 = (h.add v).l := rfl
theorem Rd.cutc {C : zAs} {s m : Nat} {xs : List Value} {ad : Option Addr} {c lo hi : Nat} (h : Rd C s (.slice ad m c) m xs) (h1 : lo ≤ hi) (h2 : hi ≤ m) (h3 : hi ≤ c) :
    ∃ ad2, sliced ad lo hi c s = .slice ad2 (hi - lo) (c - lo) ∧ Rd C s (.slice ad2 (hi - lo) (c - lo)) (hi - lo) ((xs.drop (lo * s)).take ((hi - lo) * s)) :=
  ⟨_, rfl, h.piece rfl h1 h2 h3⟩
def Tab (As : List zAs) (g : Nat) (l : List Int) : Prop := ∃ G ∈ As, ∃ T fr, (g, Obj.cells (u32s l).toArray T fr) ∈ G
theorem Tab.tail {As : List zAs} {g : Nat} {l : List Int} {A : zAs} (h : Tab As g l) : Tab (A :: As) g l := by
  obtain ⟨G, hG, r⟩ := h; exact ⟨G, List.Mem.tail _ hG, r⟩
theorem Tab.cell {As : List zAs} {g : Nat} {l : List Int} {w : World} (h : Tab As g l) (S : Stab As w) {j : Nat} (hj : j < l.length) : w.cell? ⟨g, j, none⟩ = some (.int .u32 (l.getD j 0)) := by
  obtain ⟨G, hG, T, fr, hm⟩ := h
  exact zDp (S G hG _ hm) (u32_at l hj)
theorem shaK_len : shaK.length = 64 := rfl
theorem shs {n k : Nat} (hk : k ≤ 7) : ((n : Int) * 8) / 2 ^ (56 - 8 * (k : Int)).toNat = ((n * 8 / 2 ^ (56 - 8 * k) : Nat) : Int) := by
  rw [show (56 - 8 * (k : Int)).toNat = 56 - 8 * k by omega]; simp
end Go.Sl
namespace Go.Proofs.YtbogecljkaimdaaGreatDoor
open Go.Sl
set_option maxRecDepth 10000
theorem rotl_ret (x k : Int) (hk : 1 ≤ k ∧ k ≤ 31) (w0 : World) : Ret Tryz.prog 136 #[.int .u32 x, .int .i64 (-k)] w0 fun u w' => u = .int .u32 (rot x k) ∧ Trs w0 w' [] [] := by
  have S := St.begin (hp_nil w0)
  refine zCg 17 Tryz.func136 rfl rfl (by decide) ?_; intro a E
  refine wp_seq_k ?_; intro K hK
  refine zAa ?_
  refine zp E (zAe E rfl rfl) ?_; clear E a; intro a E
  refine wpList_nil ?_
  refine zAf hK ?_; clear hK; clear K
  refine wp_seq_k ?_; intro K hK
  refine zAa ?_
  refine zp E (zAd E rfl rfl) ?_; clear E a; intro a E
  refine zp E (zBi E rfl rfl rfl rfl (r := 18446744073709551616 - k) (by rw [IntKind.wrap_u64]; omega)) ?_; clear E a; intro a E
  refine zp E (zJx E rfl rfl rfl (and31 hk)) ?_; clear E a; intro a E
  refine zp E (zAe E rfl rfl) ?_; clear E a; intro a E
  refine wpList_nil ?_
  refine zAf hK ?_; clear hK; clear K
  refine wp_seq_k ?_; intro K hK
  refine zAa ?_
  iterate 2 (refine zp E (zAd E rfl rfl) ?_; clear E a; intro a E)
  refine zp E (zJz E rfl rfl rfl (by omega) (by simp only [IntKind.bits]; omega) rfl) ?_; clear E a; intro a E
  iterate 2 (refine zp E (zAd E rfl rfl) ?_; clear E a; intro a E)
  refine zp E (zEw E rfl rfl rfl (show IntKind.u64.wrap (32 - (32 - k)) = k by rw [IntKind.wrap_u64]; omega)) ?_; clear E a; intro a E
  refine zp E (zJy E rfl rfl rfl (by omega) (by simp only [IntKind.bits]; omega) rfl) ?_; clear E a; intro a E
  refine zp E (rn_or E rfl rfl rfl (or32_comm _ _)) ?_; clear E a; intro a E
  refine zp E (zAe E rfl rfl) ?_; clear E a; intro a E
  refine wpList_nil ?_
  refine zAf hK ?_; clear hK; clear K
  refine wp_ret ?_
  refine ret1 E rfl rfl ?_
  exact ⟨_, rfl, rfl, (S.only (Bs := []) (zAo _)).tr⟩
theorem zGv (x k : Int) (hk : 1 ≤ k ∧ k ≤ 31) (w0 : World) : Ret Tryz.prog 130 #[.int .u32 x, .int .i64 k] w0 fun u w' => u = .int .u32 (rot x k) ∧ Trs w0 w' [] [] := by
  have S := St.begin (hp_nil w0)
  refine zCg 9 Tryz.func130 rfl rfl (by decide) ?_; intro a E
  refine wp_seq_k ?_; intro K hK
  refine zAa ?_
  refine zp E (zAe E rfl rfl) ?_; clear E a; intro a E
  refine wpList_nil ?_
  refine zAf hK ?_; clear hK; clear K
  refine wp_seq_k ?_; intro K hK
  refine zAa ?_
  iterate 2 (refine zp E (zAd E rfl rfl) ?_; clear E a; intro a E)
  refine zp E (rn_neg E rfl rfl (by first | exact wn_in (by omega) | exact rfl)) ?_; clear E a; intro a E
  refine zAn E rfl rfl (by decide) rfl Tryz.func136 rfl (by kernel_rfl) rfl (rotl_ret x k hk _) ?_
  rintro v8 w ⟨rfl, hT⟩; clear E a; intro a E
  have S := S.quiet hT
  refine zp E (zAe E rfl rfl) ?_; clear E a; intro a E
  refine wpList_nil ?_
  refine zAf hK ?_; clear hK; clear K
  refine wp_ret ?_
  refine ret1 E rfl rfl ?_
  exact ⟨_, rfl, rfl, (S.only (Bs := []) (zAo _)).tr⟩
theorem schedule_ret (b : List UInt8) (hl : b.length = 64) (w0 : World) : Ret Tryz.prog 119 #[.agg (byt b).toArray] w0 fun u w' => u = .agg (u32s (wsN b 64)).toArray ∧ Trs w0 w' [] [] := by
  have S := St.begin (hp_nil w0)
  have hbl := zDr b
  refine zDh 85 Tryz.func119 rfl rfl (by decide) ?_; intro a E
  refine wp_seq_k ?_; intro K hK
  refine zAa ?_
  refine zAm rfl (zCk E S rfl rfl (by decide) rfl rfl ?_); clear E S a; intro a w b1 E S
  refine zAm rfl (zBr E S rfl rfl (by decide) rfl rfl rfl ?_); clear E S a; intro a w b2 E S
  refine wpList_nil ?_
  refine zAf hK ?_; clear hK; clear K
  refine wp_seq_k ?_; intro K hK
  refine zAa ?_
  refine zAm rfl (zBr E S rfl rfl (by decide) rfl rfl rfl ?_); clear E S a; intro a w b3 E S
  refine wpList_nil ?_
  refine zAf hK ?_; clear hK; clear K
  iterate 2 (refine wp_seq_k ?_; intro K hK)
  refine zAa ?_
  refine zp E (zAd E rfl rfl) ?_; clear E a; intro a E
  refine wpList_nil ?_
  refine zAf hK ?_; clear hK; clear K
  refine wp_block ?_
  refine wp_loop_ghost (fun (m : Nat) (a : Act) (w' : World) => ∃ i, m = 16 - i ∧ i ≤ 16 ∧ St w0 [] w' [[(b3, cel (u32s (wsN b i) ++ List.replicate (64 - i) (.int .u32 0)) 127)], [(b2, cel (List.replicate 64 (.int .u32 0)) 127)], [(b1, cel (byt b) 136)]] ∧ Fr a 85 [(1, ptr b1), (2, ptr b2), (3, ptr b3), (8, .int .i64 i)]) (16 - 0) ?_ ?_
  · exact ⟨0, rfl, by omega, S, E.keep (zAb rfl (zAb rfl (zAb rfl (zAb rfl zAr))))⟩
  clear E; clear a; (try clear S); rintro m a w ⟨i, rfl, hi, S, E⟩
  refine wp_seq_k ?_; intro K hK
  refine zAa ?_
  refine zp E (zCw E rfl rfl rfl) ?_; clear E a; intro a E
  refine wpList_nil ?_
  refine zAf hK ?_; clear hK; clear K
  refine wp_seq_k ?_; intro K hK
  refine zBj E rfl (fun hb => ?_) (fun hb => ?_)
  · replace hb := Nrm.nrm hb
    refine wp_skip ?_
    refine zAf hK ?_; clear hK; clear K
    refine wp_seq_k ?_; intro K hK
    refine wp_block ?_
    refine wp_seq_k ?_; intro K hK
    refine zAa ?_
    refine zp E (zAd E rfl rfl) ?_; clear E a; intro a E
    refine zp E (zAe E rfl rfl) ?_; clear E a; intro a E
    refine wpList_nil ?_
    refine zAf hK ?_; clear hK; clear K
    have hwl := zFe b i
    have hst := ws_step b i
    rw [if_pos (by omega), word_lit b (by omega)] at hst
    refine zCa S (.ofL [(0, 0), (1, 0), (2, 0), (3, 0), (4, 0), (5, 0), (6, 0), (7, 0), (8, 0), (9, 0), (10, 0), (11, 0), (12, 0), (13, 0), (14, 0), (15, 0), (16, 0), (17, 0), (18, 0), (19, 0), (20, 0), (21, 0), (22, 0), (23, 0), (24, 0), (25, 0), (26, 0), (27, 0), (28, 0), (29, 0), (30, 0), (31, 3)]) (by kernel_rfl) (by kernel_rfl) ?_
    clear S; intro w S
    iterate 2 (refine zm E rfl (fun w h => zAd E rfl rfl) ?_; clear E a; intro a E)
    refine zm E rfl (fun w h => zIa E rfl rfl rfl (by first | exact zIw (x := 4) (by omega) | exact zGy (x := 4) (by omega) | exact w_in (by omega) | exact rfl)) ?_; clear E a; intro a E
    refine zm E rfl (fun w h => zDx (i := 4 * i) E rfl rfl rfl rfl rfl rfl (by omega)) ?_; clear E a; intro a E
    refine zm E rfl (fun w h => zAl E rfl rfl rfl (zDp (h.one (by repeat (first | exact mm1 | assumption | apply List.Mem.tail))) (zIy b (i := 4 * i) (by omega)))) ?_; clear E a; intro a E
    refine zm E rfl (fun w h => zBi E rfl rfl rfl rfl (w8_32 _)) ?_; clear E a; intro a E
    refine zm E rfl (fun w h => zJz E rfl rfl rfl (by omega) (by simp only [IntKind.bits]; omega) rfl) ?_; clear E a; intro a E
    refine zm E rfl (fun w h => zAd E rfl rfl) ?_; clear E a; intro a E
    refine zm E rfl (fun w h => zIa E rfl rfl rfl (by first | exact zIw (x := 4) (by omega) | exact zGy (x := 4) (by omega) | exact w_in (by omega) | exact rfl)) ?_; clear E a; intro a E
    refine zm E rfl (fun w h => zCc E rfl rfl rfl (by first | exact zCt (y := 1) (by omega) | exact w_in (by omega) | exact zCb (by omega) | exact rfl)) ?_; clear E a; intro a E
    refine zm E rfl (fun w h => zDx (i := 4 * i + 1) E rfl rfl rfl rfl rfl rfl (by omega)) ?_; clear E a; intro a E
    refine zm E rfl (fun w h => zAl E rfl rfl rfl (zDp (h.one (by repeat (first | exact mm1 | assumption | apply List.Mem.tail))) (zIy b (i := 4 * i + 1) (by omega)))) ?_; clear E a; intro a E
    refine zm E rfl (fun w h => zBi E rfl rfl rfl rfl (w8_32 _)) ?_; clear E a; intro a E
    refine zm E rfl (fun w h => zJz E rfl rfl rfl (by omega) (by simp only [IntKind.bits]; omega) rfl) ?_; clear E a; intro a E
    refine zm E rfl (fun w h => rn_or E rfl rfl rfl rfl) ?_; clear E a; intro a E
    refine zm E rfl (fun w h => zAd E rfl rfl) ?_; clear E a; intro a E
    refine zm E rfl (fun w h => zIa E rfl rfl rfl (by first | exact zIw (x := 4) (by omega) | exact zGy (x := 4) (by omega) | exact w_in (by omega) | exact rfl)) ?_; clear E a; intro a E
    refine zm E rfl (fun w h => zCc E rfl rfl rfl (by first | exact zCt (y := 2) (by omega) | exact w_in (by omega) | exact zCb (by omega) | exact rfl)) ?_; clear E a; intro a E
    refine zm E rfl (fun w h => zDx (i := 4 * i + 2) E rfl rfl rfl rfl rfl rfl (by omega)) ?_; clear E a; intro a E
    refine zm E rfl (fun w h => zAl E rfl rfl rfl (zDp (h.one (by repeat (first | exact mm1 | assumption | apply List.Mem.tail))) (zIy b (i := 4 * i + 2) (by omega)))) ?_; clear E a; intro a E
    refine zm E rfl (fun w h => zBi E rfl rfl rfl rfl (w8_32 _)) ?_; clear E a; intro a E
    refine zm E rfl (fun w h => zJz E rfl rfl rfl (by omega) (by simp only [IntKind.bits]; omega) rfl) ?_; clear E a; intro a E
    refine zm E rfl (fun w h => rn_or E rfl rfl rfl rfl) ?_; clear E a; intro a E
    refine zm E rfl (fun w h => zAd E rfl rfl) ?_; clear E a; intro a E
    refine zm E rfl (fun w h => zIa E rfl rfl rfl (by first | exact zIw (x := 4) (by omega) | exact zGy (x := 4) (by omega) | exact w_in (by omega) | exact rfl)) ?_; clear E a; intro a E
    refine zm E rfl (fun w h => zCc E rfl rfl rfl (by first | exact zCt (y := 3) (by omega) | exact w_in (by omega) | exact zCb (by omega) | exact rfl)) ?_; clear E a; intro a E
    refine zm E rfl (fun w h => zDx (i := 4 * i + 3) E rfl rfl rfl rfl rfl rfl (by omega)) ?_; clear E a; intro a E
    refine zm E rfl (fun w h => zAl E rfl rfl rfl (zDp (h.one (by repeat (first | exact mm1 | assumption | apply List.Mem.tail))) (zIy b (i := 4 * i + 3) (by omega)))) ?_; clear E a; intro a E
    refine zm E rfl (fun w h => zBi E rfl rfl rfl rfl (w8_32 _)) ?_; clear E a; intro a E
    refine zm E rfl (fun w h => rn_or E rfl rfl rfl rfl) ?_; clear E a; intro a E
    refine zm E rfl (fun w h => zDx (i := i) E rfl rfl rfl rfl rfl rfl (by omega)) ?_; clear E a; intro a E
    refine zCy rfl rfl (zBk E S rfl rfl rfl rfl rfl rfl (by repeat (first | exact pk1 | apply zAc)) (by rw [List.length_append, List.length_map, List.length_replicate]; omega) ?_); clear E S a; intro a w E S; try dsimp only [List.set] at S
    rw [zJe (u32s (wsN b i)) 64 (.int .u32 0) _ i (by rw [List.length_map, hwl]) (by omega)] at S
    refine zCd ?_
    refine zBo ?_
    refine zAf hK ?_; clear hK; clear K
    refine zAa ?_
    refine zp E (zCc E rfl rfl rfl (by first | exact zCt (y := 1) (by omega) | exact w_in (by omega) | exact zCb (by omega) | exact rfl)) ?_; clear E a; intro a E
    refine zp E (zAd E rfl rfl) ?_; clear E a; intro a E
    refine wpList_nil ?_
    refine zBn ?_
    exact ⟨_, by omega, i + 1, rfl, by omega, by rw [hst]; exact S, E.keep (zAb rfl (zAb rfl (zAb rfl (zAb rfl zAr))))⟩
  · replace hb := Nrm.nrm hb
    refine wp_exit ?_
    refine zBf ?_; clear hK; clear K
    refine zBf ?_
    refine zCr ?_
    refine zAf hK ?_; clear hK; clear K
    iterate 2 (refine wp_seq_k ?_; intro K hK)
    refine zAa ?_
    refine zp E (zAe E rfl rfl) ?_; clear E a; intro a E
    refine wpList_nil ?_
    refine zAf hK ?_; clear hK; clear K
    refine wp_block ?_
    refine wp_loop_ghost (fun (m : Nat) (a : Act) (w' : World) => ∃ i, m = 64 - i ∧ 16 ≤ i ∧ i ≤ 64 ∧ St w0 [] w' [[(b3, cel (u32s (wsN b i) ++ List.replicate (64 - i) (.int .u32 0)) 127)], [(b2, cel (List.replicate 64 (.int .u32 0)) 127)], [(b1, cel (byt b) 136)]] ∧ Fr a 85 [(2, ptr b2), (3, ptr b3), (5, .int .i64 i)]) (64 - 16) ?_ ?_
    · exact ⟨16, rfl, by omega, by omega, by obtain rfl : i = 16 := (by omega); exact S, E.keep (zAb rfl (zAb rfl (zAb rfl zAr)))⟩
    clear E; clear a; (try clear S); rintro m a w ⟨i, rfl, h16, hi, S, E⟩
    iterate 2 (refine wp_seq_k ?_; intro K hK)
    refine zAa ?_
    refine zp E (zAd E rfl rfl) ?_; clear E a; intro a E
    refine zp E (zCw E rfl rfl rfl) ?_; clear E a; intro a E
    refine wpList_nil ?_
    refine zAf hK ?_; clear hK; clear K
    refine zBj E rfl (fun hb => ?_) (fun hb => ?_)
    · replace hb := Nrm.nrm hb
      refine wp_skip ?_
      refine zAf hK ?_; clear hK; clear K
      refine wp_seq_k ?_; intro K hK
      refine wp_block ?_
      refine wp_seq_k ?_; intro K hK
      have hwl := zFe b i
      have hst := ws_step b i
      rw [if_neg (by omega)] at hst
      refine zCa S (.ofL [(0, 0), (1, 0), (2, 0), (3, 0), (4, 0), (5, 0), (6, 0), (7, 0), (8, 0), (9, 0)]) (by kernel_rfl) (by kernel_rfl) ?_
      clear S; intro w S
      refine zm E rfl (fun w h => zAd E rfl rfl) ?_; clear E a; intro a E
      refine zm E rfl (fun w h => zEw E rfl rfl rfl (by first | exact zIc (y := 15) (by omega) (by omega) | exact w_in (by omega) | exact zCb (by omega) | exact rfl)) ?_; clear E a; intro a E
      refine zm E rfl (fun w h => zDx (i := i - 15) E rfl rfl rfl rfl rfl rfl (by omega)) ?_; clear E a; intro a E
      refine zm E rfl (fun w h => zAl E rfl rfl rfl (zDp (h.one (by repeat (first | exact mm1 | assumption | apply List.Mem.tail))) (ws_at b i (i - 15) _ (by omega)))) ?_; clear E a; intro a E
      refine zm E rfl (fun w h => zAd E rfl rfl) ?_; clear E a; intro a E
      refine zm E rfl (fun w h => zEw E rfl rfl rfl (by first | exact zIc (y := 2) (by omega) (by omega) | exact w_in (by omega) | exact zCb (by omega) | exact rfl)) ?_; clear E a; intro a E
      refine zm E rfl (fun w h => zDx (i := i - 2) E rfl rfl rfl rfl rfl rfl (by omega)) ?_; clear E a; intro a E
      refine zm E rfl (fun w h => zAl E rfl rfl rfl (zDp (h.one (by repeat (first | exact mm1 | assumption | apply List.Mem.tail))) (ws_at b i (i - 2) _ (by omega)))) ?_; clear E a; intro a E
      iterate 2 (refine zm E rfl (fun w h => zAe E rfl rfl) ?_; clear E a; intro a E)
      refine zCd ?_
      refine zAf hK ?_; clear hK; clear K
      refine zCa S (.ofL [(0, 0), (1, 0), (2, 0), (3, 0), (4, 0), (5, 0), (7, 0), (10, 0), (11, 0), (14, 0), (15, 0), (16, 0), (17, 0), (19, 0), (21, 0), (24, 0), (25, 0), (6, 1), (8, 1), (9, 0), (12, 0), (13, 0), (18, 0), (20, 1), (22, 1), (23, 0), (26, 0), (27, 0), (28, 0), (29, 3)]) (by kernel_rfl) (by kernel_rfl) ?_
      clear S; intro w S
      iterate 2 (refine zm E rfl (fun w h => zAd E rfl rfl) ?_; clear E a; intro a E)
      refine zm E rfl (fun w h => zEw E rfl rfl rfl (by first | exact zIc (y := 16) (by omega) (by omega) | exact w_in (by omega) | exact zCb (by omega) | exact rfl)) ?_; clear E a; intro a E
      refine zm E rfl (fun w h => zDx (i := i - 16) E rfl rfl rfl rfl rfl rfl (by omega)) ?_; clear E a; intro a E
      refine zm E rfl (fun w h => zAl E rfl rfl rfl (zDp (h.one (by repeat (first | exact mm1 | assumption | apply List.Mem.tail))) (ws_at b i (i - 16) _ (by omega)))) ?_; clear E a; intro a E
      iterate 3 (refine zm E rfl (fun w h => zAd E rfl rfl) ?_; clear E a; intro a E)
      refine zm E rfl (fun w h => zJy E rfl rfl rfl (by omega) (by simp only [IntKind.bits]; omega) rfl) ?_; clear E a; intro a E
      refine zm E rfl (fun w h => zAd E rfl rfl) ?_; clear E a; intro a E
      refine zm E rfl (fun w h => zEw E rfl rfl rfl (by first | exact zIc (y := 7) (by omega) (by omega) | exact w_in (by omega) | exact zCb (by omega) | exact rfl)) ?_; clear E a; intro a E
      refine zm E rfl (fun w h => zDx (i := i - 7) E rfl rfl rfl rfl rfl rfl (by omega)) ?_; clear E a; intro a E
      refine zm E rfl (fun w h => zAl E rfl rfl rfl (zDp (h.one (by repeat (first | exact mm1 | assumption | apply List.Mem.tail))) (ws_at b i (i - 7) _ (by omega)))) ?_; clear E a; intro a E
      iterate 3 (refine zm E rfl (fun w h => zAd E rfl rfl) ?_; clear E a; intro a E)
      refine zm E rfl (fun w h => zJy E rfl rfl rfl (by omega) (by simp only [IntKind.bits]; omega) rfl) ?_; clear E a; intro a E
      refine zCn E rfl rfl rfl (by decide) rfl Tryz.func130 rfl (by kernel_rfl) rfl (zGv _ 7 (by omega) _) ?_
      rintro v61 w ⟨rfl, hT⟩; clear E a; intro a E
      have S := S.quiet hT
      refine ⟨S.stab.sub (by first | (simp; done) | (simp +contextual; done) | (simp [*]; done)), ?_⟩
      refine zCn E rfl rfl rfl (by decide) rfl Tryz.func130 rfl (by kernel_rfl) rfl (zGv _ 18 (by omega) _) ?_
      rintro v63 w ⟨rfl, hT⟩; clear E a; intro a E
      have S := S.quiet hT
      refine ⟨S.stab.sub (by first | (simp; done) | (simp +contextual; done) | (simp [*]; done)), ?_⟩
      iterate 2 (refine zm E rfl (fun w h => zHf E rfl rfl rfl rfl) ?_; clear E a; intro a E)
      iterate 2 (refine zm E rfl (fun w h => zCc E rfl rfl rfl (by first | exact wa1 (by omega) | exact w_in (by omega) | exact zCb (by omega) | exact rfl)) ?_; clear E a; intro a E)
      refine zCn E rfl rfl rfl (by decide) rfl Tryz.func130 rfl (by kernel_rfl) rfl (zGv _ 17 (by omega) _) ?_
      rintro v75 w ⟨rfl, hT⟩; clear E a; intro a E
      have S := S.quiet hT
      refine ⟨S.stab.sub (by first | (simp; done) | (simp +contextual; done) | (simp [*]; done)), ?_⟩
      refine zCn E rfl rfl rfl (by decide) rfl Tryz.func130 rfl (by kernel_rfl) rfl (zGv _ 19 (by omega) _) ?_
      rintro v77 w ⟨rfl, hT⟩; clear E a; intro a E
      have S := S.quiet hT
      refine ⟨S.stab.sub (by first | (simp; done) | (simp +contextual; done) | (simp [*]; done)), ?_⟩
      iterate 2 (refine zm E rfl (fun w h => zHf E rfl rfl rfl rfl) ?_; clear E a; intro a E)
      refine zm E rfl (fun w h => zCc E rfl rfl rfl (by first | exact wa1 (by omega) | exact w_in (by omega) | exact zCb (by omega) | exact rfl)) ?_; clear E a; intro a E
      refine zm E rfl (fun w h => zDx (i := i) E rfl rfl rfl rfl rfl rfl (by omega)) ?_; clear E a; intro a E
      refine zCy rfl rfl (zBk E S rfl rfl rfl rfl rfl rfl (by repeat (first | exact pk1 | apply zAc)) (by rw [List.length_append, List.length_map, List.length_replicate]; omega) ?_); clear E S a; intro a w E S; try dsimp only [List.set] at S
      rw [zJe (u32s (wsN b i)) 64 (.int .u32 0) _ i (by rw [List.length_map, hwl]) (by omega)] at S
      refine zCd ?_
      refine zBo ?_
      refine zAf hK ?_; clear hK; clear K
      refine zAa ?_
      refine zp E (zAd E rfl rfl) ?_; clear E a; intro a E
      refine zp E (zCc E rfl rfl rfl (by first | exact zCt (y := 1) (by omega) | exact w_in (by omega) | exact zCb (by omega) | exact rfl)) ?_; clear E a; intro a E
      refine zp E (zAe E rfl rfl) ?_; clear E a; intro a E
      refine wpList_nil ?_
      refine zBn ?_
      exact ⟨_, by omega, i + 1, rfl, by omega, by omega, by rw [hst]; exact S, E.keep (zAb rfl (zAb rfl (zAb rfl zAr)))⟩
    · replace hb := Nrm.nrm hb
      refine wp_exit ?_
      refine zBf ?_; clear hK; clear K
      refine zBf ?_
      refine zCr ?_
      refine zAf hK ?_; clear hK; clear K
      refine wp_seq_k ?_; intro K hK
      obtain rfl : i = 64 := by omega
      have hwl := zFe b 64
      rw [Nat.sub_self, List.replicate_zero, List.append_nil] at S
      obtain ⟨ws, hws⟩ : ∃ ws, ws = wsN b 64 := ⟨_, rfl⟩
      rw [← hws] at S hwl ⊢
      have hul : (u32s ws).length = 64 := by rw [List.length_map, hwl]
      refine zAa ?_
      refine zp E (zFt E rfl rfl rfl (S.get (by repeat (first | exact pk1 | apply zAc))) hul) ?_; clear E a; intro a E
      refine zAm rfl (zJc E S rfl rfl rfl rfl (zKy ws) rfl hul (by repeat (first | exact pk1 | apply zAc)) (by rw [hul]; rfl) ?_); clear E S a; intro a w E S
      refine wpList_nil ?_
      refine zAf hK ?_; clear hK; clear K
      refine wp_ret ?_
      refine zIi E rfl rfl (S.get (by repeat (first | exact pk1 | apply zAc))) (by rw [hul]; rfl) ?_
      exact ⟨_, rfl, (by first | (rw [← hws]; done) | with_reducible rfl), (S.only (Bs := []) (zAo _)).tr⟩
end Go.Proofs.YtbogecljkaimdaaGreatDoor
namespace Go.Sl
theorem s8_at (s : S8) {i : Nat} (h : i < 8) : (u32s s.l)[i]? = some (.int .u32 (s.l.getD i 0)) := u32_at s.l h
theorem lenB_succ (n k : Nat) : lenB n (k + 1) = lenB n k ++ [UInt8.ofNat (n / 2 ^ (56 - 8 * k))] := rfl
theorem blk_length (all : List UInt8) {k : Nat} (h : 64 * k + 64 ≤ all.length) : (blk all k).length = 64 := by rw [blk, List.length_take, List.length_drop]; omega
theorem pad_small {n : Nat} (h : n ≤ 140737488352000) : n + 1 + padZ n + 8 ≤ 140737488352100 := by unfold padZ; omega
end Go.Sl
namespace Go.Proofs.YtbogecljkaimdaaGreatDoor
open Go.Sl
set_option maxRecDepth 10000
theorem mixed_ret (s0 : S8) (ws : List Int) (hw : ws.length = 64) (As : List zAs) (hG : Tab As 2 shaK) (w0 : World) (H : Hp w0 As) :
    Ret Tryz.prog 118 #[.agg (u32s s0.l).toArray, .agg (u32s ws).toArray] w0 fun u w' => u = .agg (u32s (s0.add (s0.mix shaK ws 64)).l).toArray ∧ Trs w0 w' As As := by
  have S := St.begin H
  have hul : (u32s ws).length = 64 := by rw [List.length_map, hw]
  refine zCg 119 Tryz.func118 rfl rfl (by decide) ?_; intro a E
  refine wp_seq_k ?_; intro K hK
  refine zAa ?_
  refine zAm rfl (zCk E S rfl rfl (by decide) rfl rfl ?_); clear E S a; intro a w b2 E S
  refine zAm rfl (zCk E S rfl rfl (by decide) rfl rfl ?_); clear E S a; intro a w b3 E S
  refine zAm rfl (zBr E S rfl rfl (by decide) rfl rfl rfl ?_); clear E S a; intro a w b4 E S
  refine wpList_nil ?_
  refine zAf hK ?_; clear hK; clear K
  refine wp_seq_k ?_; intro K hK
  refine zCa S (.ofL [(0, 0), (1, 0), (2, 0), (3, 0), (4, 0), (5, 0), (6, 0), (7, 0), (8, 0), (9, 0), (10, 0), (11, 0), (12, 0), (13, 0), (14, 0), (15, 0), (16, 0), (17, 0), (18, 0), (19, 0), (20, 0), (21, 0), (22, 0), (23, 0)]) (by kernel_rfl) (by kernel_rfl) ?_
  clear S; intro w S
  refine zm E rfl (fun w h => zDx (i := 0) E rfl rfl rfl rfl rfl rfl (by omega)) ?_; clear E a; intro a E
  refine zm E rfl (fun w h => by first | exact zAq E rfl rfl rfl (h.one (by repeat (first | exact mm1 | assumption | apply List.Mem.tail))) rfl | exact zAl E rfl rfl rfl (by assumption)) ?_; clear E a; intro a E
  refine zm E rfl (fun w h => zDx (i := 1) E rfl rfl rfl rfl rfl rfl (by omega)) ?_; clear E a; intro a E
  refine zm E rfl (fun w h => by first | exact zAq E rfl rfl rfl (h.one (by repeat (first | exact mm1 | assumption | apply List.Mem.tail))) rfl | exact zAl E rfl rfl rfl (by assumption)) ?_; clear E a; intro a E
  refine zm E rfl (fun w h => zDx (i := 2) E rfl rfl rfl rfl rfl rfl (by omega)) ?_; clear E a; intro a E
  refine zm E rfl (fun w h => by first | exact zAq E rfl rfl rfl (h.one (by repeat (first | exact mm1 | assumption | apply List.Mem.tail))) rfl | exact zAl E rfl rfl rfl (by assumption)) ?_; clear E a; intro a E
  refine zm E rfl (fun w h => zDx (i := 3) E rfl rfl rfl rfl rfl rfl (by omega)) ?_; clear E a; intro a E
  refine zm E rfl (fun w h => by first | exact zAq E rfl rfl rfl (h.one (by repeat (first | exact mm1 | assumption | apply List.Mem.tail))) rfl | exact zAl E rfl rfl rfl (by assumption)) ?_; clear E a; intro a E
  refine zm E rfl (fun w h => zDx (i := 4) E rfl rfl rfl rfl rfl rfl (by omega)) ?_; clear E a; intro a E
  refine zm E rfl (fun w h => by first | exact zAq E rfl rfl rfl (h.one (by repeat (first | exact mm1 | assumption | apply List.Mem.tail))) rfl | exact zAl E rfl rfl rfl (by assumption)) ?_; clear E a; intro a E
  refine zm E rfl (fun w h => zDx (i := 5) E rfl rfl rfl rfl rfl rfl (by omega)) ?_; clear E a; intro a E
  refine zm E rfl (fun w h => by first | exact zAq E rfl rfl rfl (h.one (by repeat (first | exact mm1 | assumption | apply List.Mem.tail))) rfl | exact zAl E rfl rfl rfl (by assumption)) ?_; clear E a; intro a E
  refine zm E rfl (fun w h => zDx (i := 6) E rfl rfl rfl rfl rfl rfl (by omega)) ?_; clear E a; intro a E
  refine zm E rfl (fun w h => by first | exact zAq E rfl rfl rfl (h.one (by repeat (first | exact mm1 | assumption | apply List.Mem.tail))) rfl | exact zAl E rfl rfl rfl (by assumption)) ?_; clear E a; intro a E
  refine zm E rfl (fun w h => zDx (i := 7) E rfl rfl rfl rfl rfl rfl (by omega)) ?_; clear E a; intro a E
  refine zm E rfl (fun w h => by first | exact zAq E rfl rfl rfl (h.one (by repeat (first | exact mm1 | assumption | apply List.Mem.tail))) rfl | exact zAl E rfl rfl rfl (by assumption)) ?_; clear E a; intro a E
  iterate 8 (refine zm E rfl (fun w h => zAe E rfl rfl) ?_; clear E a; intro a E)
  refine zCd ?_
  refine zAf hK ?_; clear hK; clear K
  iterate 2 (refine wp_seq_k ?_; intro K hK)
  replace E := E.keep (e' := [(2, _), (3, _), (4, _), (5, _), (6, _), (7, _), (8, _), (9, _), (10, _), (11, _), (12, _)]) (zAb rfl (zAb rfl (zAb rfl (zAb rfl (zAb rfl (zAb rfl (zAb rfl (zAb rfl (zAb rfl (zAb rfl (zAb rfl (zAr))))))))))))
  refine zAa ?_
  refine zp E (zFt E rfl rfl rfl (S.get (by repeat (first | exact pk1 | apply zAc))) hul) ?_; clear E a; intro a E
  refine zp E (zAd E rfl rfl) ?_; clear E a; intro a E
  refine wpList_nil ?_
  refine zAf hK ?_; clear hK; clear K
  refine wp_block ?_
  refine wp_loop_ghost (fun (m : Nat) (a : Act) (w' : World) => ∃ (i : Nat) (s : S8), m = 64 - i ∧ i ≤ 64 ∧ s = S8.mix s0 shaK ws i ∧ St w0 As w' ([(b4, cel (List.replicate 8 (.int .u32 0)) 122)] :: [(b3, cel (u32s ws) 127)] :: [(b2, cel (u32s s0.l) 122)] :: As) ∧ Fr a 119 [(2, ptr b2), (4, ptr b4), (5, .int .u32 s.a), (6, .int .u32 s.b), (7, .int .u32 s.c), (8, .int .u32 s.d), (9, .int .u32 s.e), (10, .int .u32 s.f), (11, .int .u32 s.g), (12, .int .u32 s.h), (35, .agg (u32s ws).toArray), (36, .int .i64 i)]) (64 - 0) ?_ ?_
  · exact ⟨0, s0, rfl, by omega, rfl, S, E.keep (zAb rfl (zAb rfl (zAb rfl (zAb rfl (zAb rfl (zAb rfl (zAb rfl (zAb rfl (zAb rfl (zAb rfl (zAb rfl (zAb rfl zAr))))))))))))⟩
  clear E; clear a; (try clear S); rintro m a w ⟨i, s, rfl, hi, hs, S, E⟩
  refine wp_seq_k ?_; intro K hK
  refine zAa ?_
  refine zp E (zCw E rfl rfl rfl) ?_; clear E a; intro a E
  refine wpList_nil ?_
  refine zAf hK ?_; clear hK; clear K
  refine wp_seq_k ?_; intro K hK
  refine zBj E rfl (fun hb => ?_) (fun hb => ?_)
  · replace hb := Nrm.nrm hb
    refine wp_skip ?_
    refine zAf hK ?_; clear hK; clear K
    refine wp_seq_k ?_; intro K hK
    refine wp_block ?_
    refine wp_seq_k ?_; intro K hK
    refine zAa ?_
    refine zp E (zAd E rfl rfl) ?_; clear E a; intro a E
    refine zp E (zId E rfl rfl rfl rfl rfl rfl rfl (by omega) (v := .int .u32 (ws.getD i 0)) (by rw [List.getElem?_toArray]; exact u32_at ws (by omega))) ?_; clear E a; intro a E
    iterate 2 (refine zp E (zAe E rfl rfl) ?_; clear E a; intro a E)
    refine wpList_nil ?_
    refine zAf hK ?_; clear hK; clear K
    refine wp_seq_k ?_; intro K hK
    refine zCa S (.ofL [(0, 0), (1, 0), (3, 0), (6, 0), (10, 0), (11, 0), (12, 0), (13, 0), (14, 0), (15, 0), (16, 0), (17, 0), (19, 0), (20, 0), (21, 0), (23, 0), (2, 1), (4, 1), (5, 0), (7, 1), (8, 0), (9, 0), (18, 0), (22, 0), (24, 0), (25, 0)]) (by kernel_rfl) (by kernel_rfl) ?_
    clear S; intro w S
    iterate 6 (refine zm E rfl (fun w h => zAd E rfl rfl) ?_; clear E a; intro a E)
    refine zm E rfl (fun w h => zJx E rfl rfl rfl rfl) ?_; clear E a; intro a E
    refine zm E rfl (fun w h => zAd E rfl rfl) ?_; clear E a; intro a E
    refine zm E rfl (fun w h => rn_com E rfl rfl rfl) ?_; clear E a; intro a E
    refine zm E rfl (fun w h => zAd E rfl rfl) ?_; clear E a; intro a E
    refine zm E rfl (fun w h => zJx E rfl rfl rfl rfl) ?_; clear E a; intro a E
    refine zm E rfl (fun w h => zHf E rfl rfl rfl rfl) ?_; clear E a; intro a E
    refine zm E rfl (fun w h => zAd E rfl rfl) ?_; clear E a; intro a E
    refine zm E rfl (fun w h => zDx (i := i) E rfl rfl rfl rfl rfl rfl (by omega)) ?_; clear E a; intro a E
    refine zm E rfl (fun w h => zAl E rfl rfl rfl (hG.tail.tail.tail.cell h (j := i) (by rw [shaK_len]; omega))) ?_; clear E a; intro a E
    refine zm E rfl (fun w h => zAd E rfl rfl) ?_; clear E a; intro a E
    refine zCn E rfl rfl rfl (by decide) rfl Tryz.func130 rfl (by kernel_rfl) rfl (zGv s.e 6 (by omega) _) ?_
    rintro v42 w ⟨rfl, hT⟩; clear E a; intro a E
    have S := S.quiet hT
    refine ⟨S.stab.sub (by first | (simp; done) | (simp +contextual; done) | (simp [*]; done)), ?_⟩
    refine zCn E rfl rfl rfl (by decide) rfl Tryz.func130 rfl (by kernel_rfl) rfl (zGv s.e 11 (by omega) _) ?_
    rintro v44 w ⟨rfl, hT⟩; clear E a; intro a E
    have S := S.quiet hT
    refine ⟨S.stab.sub (by first | (simp; done) | (simp +contextual; done) | (simp [*]; done)), ?_⟩
    refine zm E rfl (fun w h => zHf E rfl rfl rfl rfl) ?_; clear E a; intro a E
    refine zCn E rfl rfl rfl (by decide) rfl Tryz.func130 rfl (by kernel_rfl) rfl (zGv s.e 25 (by omega) _) ?_
    rintro v47 w ⟨rfl, hT⟩; clear E a; intro a E
    have S := S.quiet hT
    refine ⟨S.stab.sub (by first | (simp; done) | (simp +contextual; done) | (simp [*]; done)), ?_⟩
    refine zm E rfl (fun w h => zHf E rfl rfl rfl rfl) ?_; clear E a; intro a E
    iterate 4 (refine zm E rfl (fun w h => zCc E rfl rfl rfl (by first | exact wa1 (by omega) | exact w_in (by omega) | exact zCb (by omega) | exact rfl)) ?_; clear E a; intro a E)
    refine zm E rfl (fun w h => zAe E rfl rfl) ?_; clear E a; intro a E
    refine zCd ?_
    refine zAf hK ?_; clear hK; clear K
    refine wp_seq_k ?_; intro K hK
    refine zAa ?_
    refine zp E (zAd E rfl rfl) ?_; clear E a; intro a E
    refine zAn E rfl rfl (by decide) rfl Tryz.func130 rfl (by kernel_rfl) rfl (zGv s.a 2 (by omega) _) ?_
    rintro v66 w ⟨rfl, hT⟩; clear E a; intro a E
    have S := S.quiet hT
    refine zp E (zAd E rfl rfl) ?_; clear E a; intro a E
    refine zAn E rfl rfl (by decide) rfl Tryz.func130 rfl (by kernel_rfl) rfl (zGv s.a 13 (by omega) _) ?_
    rintro v68 w ⟨rfl, hT⟩; clear E a; intro a E
    have S := S.quiet hT
    refine zp E (zHf E rfl rfl rfl rfl) ?_; clear E a; intro a E
    refine zp E (zAd E rfl rfl) ?_; clear E a; intro a E
    refine zAn E rfl rfl (by decide) rfl Tryz.func130 rfl (by kernel_rfl) rfl (zGv s.a 22 (by omega) _) ?_
    rintro v71 w ⟨rfl, hT⟩; clear E a; intro a E
    have S := S.quiet hT
    refine zp E (zHf E rfl rfl rfl rfl) ?_; clear E a; intro a E
    iterate 2 (refine zp E (zAd E rfl rfl) ?_; clear E a; intro a E)
    refine zp E (zJx E rfl rfl rfl rfl) ?_; clear E a; intro a E
    iterate 2 (refine zp E (zAd E rfl rfl) ?_; clear E a; intro a E)
    refine zp E (zJx E rfl rfl rfl rfl) ?_; clear E a; intro a E
    refine zp E (zHf E rfl rfl rfl rfl) ?_; clear E a; intro a E
    iterate 2 (refine zp E (zAd E rfl rfl) ?_; clear E a; intro a E)
    refine zp E (zJx E rfl rfl rfl rfl) ?_; clear E a; intro a E
    refine zp E (zHf E rfl rfl rfl rfl) ?_; clear E a; intro a E
    refine zp E (zCc E rfl rfl rfl (by first | exact wa1 (by omega) | exact w_in (by omega) | exact zCb (by omega) | exact rfl)) ?_; clear E a; intro a E
    refine zp E (zAe E rfl rfl) ?_; clear E a; intro a E
    refine wpList_nil ?_
    refine zAf hK ?_; clear hK; clear K
    refine zAa ?_
    iterate 5 (refine zp E (zAd E rfl rfl) ?_; clear E a; intro a E)
    refine zp E (zCc E rfl rfl rfl (by first | exact wa1 (by omega) | exact w_in (by omega) | exact zCb (by omega) | exact rfl)) ?_; clear E a; intro a E
    iterate 5 (refine zp E (zAd E rfl rfl) ?_; clear E a; intro a E)
    refine zp E (zCc E rfl rfl rfl (by first | exact wa1 (by omega) | exact w_in (by omega) | exact zCb (by omega) | exact rfl)) ?_; clear E a; intro a E
    iterate 8 (refine zp E (zAe E rfl rfl) ?_; clear E a; intro a E)
    refine wpList_nil ?_
    refine zBo ?_
    refine zAf hK ?_; clear hK; clear K
    replace E := E.keep (e' := [(2, _), (4, _), (5, _), (6, _), (7, _), (8, _), (9, _), (10, _), (11, _), (12, _), (13, _), (14, _), (15, _), (16, _), (35, _), (36, _), (37, _), (38, _), (39, _), (40, _), (41, _), (42, _), (43, _), (44, _), (45, _), (46, _), (47, _), (48, _), (49, _), (50, _), (51, _), (52, _), (53, _), (54, _), (55, _), (56, _), (57, _), (58, _), (59, _), (60, _), (61, _), (62, _), (63, _), (64, _), (65, _), (66, _), (67, _), (68, _), (69, _), (70, _), (71, _), (72, _), (73, _), (74, _), (75, _), (76, _), (77, _), (78, _), (79, _), (80, _), (81, _), (82, _), (83, _), (84, _), (85, _), (86, _), (87, _), (88, _), (89, _), (90, _), (91, _), (92, _), (93, _), (94, _), (95, _), (96, _)]) (zAb rfl (zAb rfl (zAb rfl (zAb rfl (zAb rfl (zAb rfl (zAb rfl (zAb rfl (zAb rfl (zAb rfl (zAb rfl (zAb rfl (zAb rfl (zAb rfl (zAb rfl (zAb rfl (zAb rfl (zAb rfl (zAb rfl (zAb rfl (zAb rfl (zAb rfl (zAb rfl (zAb rfl (zAb rfl (zAb rfl (zAb rfl (zAb rfl (zAb rfl (zAb rfl (zAb rfl (zAb rfl (zAb rfl (zAb rfl (zAb rfl (zAb rfl (zAb rfl (zAb rfl (zAb rfl (zAb rfl (zAb rfl (zAb rfl (zAb rfl (zAb rfl (zAb rfl (zAb rfl (zAb rfl (zAb rfl (zAb rfl (zAb rfl (zAb rfl (zAb rfl (zAb rfl (zAb rfl (zAb rfl (zAb rfl (zAb rfl (zAb rfl (zAb rfl (zAb rfl (zAb rfl (zAb rfl (zAb rfl (zAb rfl (zAb rfl (zAb rfl (zAb rfl (zAb rfl (zAb rfl (zAb rfl (zAb rfl (zAb rfl (zAb rfl (zAb rfl (zAb rfl (zAb rfl (zAr)))))))))))))))))))))))))))))))))))))))))))))))))))))))))))))))))))))))))))))
    refine zAa ?_
    refine zp E (zCc E rfl rfl rfl (by first | exact zCt (y := 1) (by omega) | exact w_in (by omega) | exact zCb (by omega) | exact rfl)) ?_; clear E a; intro a E
    refine zp E (zAd E rfl rfl) ?_; clear E a; intro a E
    refine wpList_nil ?_
    refine zBn ?_
    exact ⟨_, by omega, i + 1, s.step (shaK.getD i 0) (ws.getD i 0), rfl, by omega, by rw [hs]; rfl, S, E.keep (zAb rfl (zAb rfl (zAb rfl (zAb rfl (zAb rfl (zAb rfl (zAb rfl (zAb rfl (zAb rfl (zAb rfl (zAb rfl (zAb rfl zAr))))))))))))⟩
  · replace hb := Nrm.nrm hb
    refine wp_exit ?_
    refine zBf ?_; clear hK; clear K
    refine zBf ?_
    refine zCr ?_
    refine zAf hK ?_; clear hK; clear K
    iterate 2 (refine wp_seq_k ?_; intro K hK)
    obtain rfl : i = 64 := by omega
    refine zAa ?_
    iterate 8 (refine zp E (zAd E rfl rfl) ?_; clear E a; intro a E)
    refine zp E (zCv (cells := [_, _, _, _, _, _, _, _]) E rfl rfl rfl) ?_; clear E a; intro a E
    refine zp E (zAd E rfl rfl) ?_; clear E a; intro a E
    refine wpList_nil ?_
    refine zAf hK ?_; clear hK; clear K
    refine wp_block ?_
    refine wp_loop_ghost (fun (m : Nat) (a : Act) (w' : World) => ∃ i, m = 8 - i ∧ i ≤ 8 ∧ St w0 As w' ([(b2, cel (u32s (addL s0 s i)) 122)] :: [(b4, cel (List.replicate 8 (.int .u32 0)) 122)] :: [(b3, cel (u32s ws) 127)] :: As) ∧ Fr a 119 [(2, ptr b2), (4, ptr b4), (106, .agg (u32s s.l).toArray), (107, .int .i64 i)]) (8 - 0) ?_ ?_
    · exact ⟨0, rfl, by omega, by rw [addL_zero]; exact S.front3 (by repeat (first | exact pk1 | apply zAc)) (B := [(b4, _)]) (by repeat (first | exact pk1 | apply zAc)) (C := [(b3, _)]) (by repeat (first | exact pk1 | apply zAc)), E.keep (zAb rfl (zAb rfl (zAb rfl (zAb rfl zAr))))⟩
    clear E; clear a; (try clear S); rintro m a w ⟨i, rfl, hi, S, E⟩
    refine wp_seq_k ?_; intro K hK
    refine zAa ?_
    refine zp E (zCw E rfl rfl rfl) ?_; clear E a; intro a E
    refine wpList_nil ?_
    refine zAf hK ?_; clear hK; clear K
    refine wp_seq_k ?_; intro K hK
    refine zBj E rfl (fun hb => ?_) (fun hb => ?_)
    · replace hb := Nrm.nrm hb
      refine wp_skip ?_
      refine zAf hK ?_; clear hK; clear K
      refine wp_seq_k ?_; intro K hK
      refine wp_block ?_
      refine wp_seq_k ?_; intro K hK
      refine zAa ?_
      refine zp E (zAd E rfl rfl) ?_; clear E a; intro a E
      refine zp E (zId E rfl rfl rfl rfl rfl rfl rfl (by omega) (v := .int .u32 (s.l.getD i 0)) (by rw [List.getElem?_toArray]; exact s8_at s (by omega))) ?_; clear E a; intro a E
      iterate 2 (refine zp E (zAe E rfl rfl) ?_; clear E a; intro a E)
      refine wpList_nil ?_
      refine zAf hK ?_; clear hK; clear K
      refine zAa ?_
      refine zp E (zAd E rfl rfl) ?_; clear E a; intro a E
      refine zp E (zDx (i := i) E rfl rfl rfl rfl rfl rfl (by omega)) ?_; clear E a; intro a E
      refine zp E (zAl E rfl rfl rfl (zDp (S.get (by repeat (first | exact pk1 | apply zAc))) (v := .int .u32 (s0.l.getD i 0)) (by rw [u32_at _ (by rw [zIn]; omega), addL_at s0 s (by omega)]))) ?_; clear E a; intro a E
      refine zp E (zAd E rfl rfl) ?_; clear E a; intro a E
      refine zp E (zCc E rfl rfl rfl (by first | exact wa1 (by omega) | exact w_in (by omega) | exact zCb (by omega) | exact rfl)) ?_; clear E a; intro a E
      refine zp E (zDx (i := i) E rfl rfl rfl rfl rfl rfl (by omega)) ?_; clear E a; intro a E
      refine zAm rfl (zBk E S rfl rfl rfl rfl rfl rfl (by repeat (first | exact pk1 | apply zAc)) (by rw [List.length_map, zIn]; omega) ?_); clear E S a; intro a w E S; try dsimp only [List.set] at S
      refine wpList_nil ?_
      refine zBo ?_
      refine zAf hK ?_; clear hK; clear K
      refine zAa ?_
      refine zp E (zCc E rfl rfl rfl (by first | exact zCt (y := 1) (by omega) | exact w_in (by omega) | exact zCb (by omega) | exact rfl)) ?_; clear E a; intro a E
      refine zp E (zAd E rfl rfl) ?_; clear E a; intro a E
      refine wpList_nil ?_
      refine zBn ?_
      exact ⟨_, by omega, i + 1, rfl, by omega, by rw [← addL_set s0 s (by omega)]; exact S, E.keep (zAb rfl (zAb rfl (zAb rfl (zAb rfl zAr))))⟩
    · replace hb := Nrm.nrm hb
      refine wp_exit ?_
      refine zBf ?_; clear hK; clear K
      refine zBf ?_
      refine zCr ?_
      refine zAf hK ?_; clear hK; clear K
      refine wp_seq_k ?_; intro K hK
      obtain rfl : i = 8 := by omega
      rw [addL_end, hs] at S
      refine zAa ?_
      refine zp E (zFt E rfl rfl rfl (S.get (by repeat (first | exact pk1 | apply zAc))) rfl) ?_; clear E a; intro a E
      refine zAm rfl (zJc E S rfl rfl rfl rfl (zKy _) rfl rfl (by repeat (first | exact pk1 | apply zAc)) (by rfl) ?_); clear E S a; intro a w E S
      refine wpList_nil ?_
      refine zAf hK ?_; clear hK; clear K
      refine wp_ret ?_
      refine zIi E rfl rfl (S.get (by repeat (first | exact pk1 | apply zAc))) rfl ?_
      exact ⟨_, rfl, rfl, S.tail3.tr⟩
theorem zIo (s : S8) (b3 : Nat) (i : Nat) (hi : i + 1 < 8) (w0 : World) (H : Hp w0 [[(b3, cel (u32s s.l) 122)]]) :
    Ret Tryz.prog 120 #[.int .i64 i, ptr b3] w0 fun u w' => u = .int .u64 (pairN (s.l.getD i 0) (s.l.getD (i + 1) 0)) ∧ Trs w0 w' [[(b3, cel (u32s s.l) 122)]] [[(b3, cel (u32s s.l) 122)]] := by
  have S := St.begin H
  refine zCg 15 Tryz.func120 rfl rfl (by decide) ?_; intro a E
  refine wp_seq_k ?_; intro K hK
  refine zAa ?_
  refine zp E (zAe E rfl rfl) ?_; clear E a; intro a E
  refine wpList_nil ?_
  refine zAf hK ?_; clear hK; clear K
  refine wp_seq_k ?_; intro K hK
  refine zCa S (.ofL [(0, 0), (1, 0), (2, 0), (3, 0), (4, 0), (5, 0), (6, 0), (7, 0), (8, 0), (9, 0), (10, 0), (11, 0)]) (by kernel_rfl) (by kernel_rfl) ?_
  clear S; intro w S
  refine zm E rfl (fun w h => zAd E rfl rfl) ?_; clear E a; intro a E
  refine zm E rfl (fun w h => zDx (i := i) E rfl rfl rfl rfl rfl rfl (by omega)) ?_; clear E a; intro a E
  refine zm E rfl (fun w h => zAl E rfl rfl rfl (zDp (h.one (by repeat (first | exact mm1 | assumption | apply List.Mem.tail))) (s8_at s (i := i) (by omega)))) ?_; clear E a; intro a E
  refine zm E rfl (fun w h => zBi E rfl rfl rfl rfl rfl) ?_; clear E a; intro a E
  refine zm E rfl (fun w h => zJz E rfl rfl rfl (by omega) (by simp only [IntKind.bits]; omega) rfl) ?_; clear E a; intro a E
  refine zm E rfl (fun w h => zAd E rfl rfl) ?_; clear E a; intro a E
  refine zm E rfl (fun w h => zCc E rfl rfl rfl (by first | exact zCt (y := 1) (by omega) | exact w_in (by omega) | exact zCb (by omega) | exact rfl)) ?_; clear E a; intro a E
  refine zm E rfl (fun w h => zDx (i := i + 1) E rfl rfl rfl rfl rfl rfl (by omega)) ?_; clear E a; intro a E
  refine zm E rfl (fun w h => zAl E rfl rfl rfl (zDp (h.one (by repeat (first | exact mm1 | assumption | apply List.Mem.tail))) (s8_at s (i := i + 1) (by omega)))) ?_; clear E a; intro a E
  refine zm E rfl (fun w h => zBi E rfl rfl rfl rfl rfl) ?_; clear E a; intro a E
  refine zm E rfl (fun w h => rn_or E rfl rfl rfl rfl) ?_; clear E a; intro a E
  refine zm E rfl (fun w h => zAe E rfl rfl) ?_; clear E a; intro a E
  refine zCd ?_
  refine zAf hK ?_; clear hK; clear K
  refine wp_ret ?_
  refine ret1 E rfl rfl ?_
  exact ⟨_, rfl, by rw [pairN_eq]; rfl, S.tr⟩
end Go.Proofs.YtbogecljkaimdaaGreatDoor
namespace Go.Sl
theorem buf_hcap {C : zAs} {T : TypeId} {s m : Nat} {v : Value} {xs : List Value} (h : Buf C T s v m xs) : ∃ ad c, v = .slice ad m c ∧ m ≤ c := by
  obtain ⟨ad, c, rfl⟩ := h.slice
  exact ⟨ad, c, rfl, h.cap_le⟩
theorem pad_zero (b : List UInt8) (z : Nat) : byt (b ++ [128] ++ List.replicate (z + 1) 0) = byt (b ++ [128] ++ List.replicate z 0) ++ [.int .u8 0] := by
  rw [List.replicate_succ', ← List.append_assoc, zDs]; rfl
def padH (b : List UInt8) : List UInt8 := b ++ [128] ++ List.replicate (padZ b.length) 0
theorem padH_length (b : List UInt8) : (padH b).length = b.length + 1 + padZ b.length := by simp [padH]; omega
theorem padH_len (b : List UInt8) : padH b ++ lenB (b.length * 8) 8 = padL b := rfl
theorem drop_blk (all : List UInt8) (k : Nat) : ((byt (all.drop (64 * k))).drop (0 * 1)).take ((64 - 0) * 1) = byt (blk all k) := by simp [blk, zHh]
theorem drop_next (all : List UInt8) (k n : Nat) (h : all.length ≤ n + 64 * k + 64) : ((byt (all.drop (64 * k))).drop (64 * 1)).take (n * 1) = byt (all.drop (64 * (k + 1))) := by
  rw [zIk, zHh, List.drop_drop, List.take_of_length_le (by rw [List.length_drop]; omega), show 64 * k + 64 * 1 = 64 * (k + 1) by omega]
end Go.Sl
namespace Go.Proofs.YtbogecljkaimdaaGreatDoor
open Go.Sl
set_option maxRecDepth 10000
set_option maxHeartbeats 1000000 in
theorem sha_ret (D : zAs) (v : Value) (b : List UInt8) (hD : Rd D 1 v b.length (byt b)) (hbl : b.length ≤ 140737488352000) (As : List zAs) (hDA : D ∈ As) (hG : Tab As 2 shaK) (w0 : World) (H : Hp w0 As) :
    Ret Tryz.prog 105 #[v] w0 fun u w' => u = (shaF b).agg ∧ Trs w0 w' As As := by
  have S := (St.begin H).addNil
  have hps := pad_small hbl
  have hHl := padH_length b
  have hLl := zJl b
  have hL64 := padL_64 b
  obtain ⟨ad0, c0, rfl⟩ := hD.slice
  refine zDh 55 Tryz.func105 rfl rfl (by decide) ?_; intro a E
  refine wp_seq_k ?_; intro K hK
  refine zAa ?_
  refine zAm rfl (zBr E S rfl rfl (by decide) rfl rfl rfl ?_); clear E S a; intro a w b2 E S
  refine wpList_nil ?_
  refine zAf hK ?_; clear hK; clear K
  refine wp_seq_k ?_; intro K hK
  refine zAa ?_
  refine zp E (zCv (cells := [_, _, _, _, _, _, _, _]) E rfl rfl rfl) ?_; clear E a; intro a E
  refine zAm rfl (zBr E S rfl rfl (by decide) rfl rfl rfl ?_); clear E S a; intro a w b3 E S
  refine zAm rfl (zBd E S rfl rfl rfl rfl (by simp [Value.oneCell']) rfl (by repeat (first | exact pk1 | apply zAc)) (by simp) ?_); clear E S a; intro a w E S; simp only [List.take_succ_cons, List.take_zero, List.drop_succ_cons, List.drop_zero, List.cons_append, List.nil_append, List.append_nil, List.length_cons, List.length_nil, Nat.zero_add, Nat.add_zero] at S
  refine wpList_nil ?_
  refine zAf hK ?_; clear hK; clear K
  refine wp_seq_k ?_; intro K hK
  refine zAa ?_
  refine zp E (zAd E rfl rfl) ?_; clear E a; intro a E
  refine zAm rfl (zDi (by' := 1) E S rfl rfl (by decide) rfl rfl (Buf.nil _ _) (by repeat (first | exact pk1 | apply zAc)) (hD.src (S.stab.at (by repeat (first | exact mm1 | assumption | apply List.Mem.tail))) rfl) rfl rfl rfl rfl rfl rfl (by simp only [maxLen]; omega) (by omega) ?_); clear E S a; intro a w v9 C9 E S hB9
  simp only [Nat.zero_add, List.nil_append] at hB9
  refine zAm rfl (zEs (cells := [_]) E S rfl rfl (by decide) rfl rfl rfl rfl rfl (by decide) rfl ?_); clear E S a; intro a w b10 E S
  refine zAm rfl (zDi (by' := 1) E S rfl rfl (by decide) rfl rfl hB9 (by repeat (first | exact pk1 | apply zAc)) ((zGm (g := b10) (T := 5) (xs := [.int .u8 128]) (s := 1) (m := 1) rfl (by simp [Value.oneCell']) (by omega) 1).src (S.stab.at (by repeat (first | exact mm1 | assumption | apply List.Mem.tail))) rfl) rfl rfl rfl rfl rfl rfl (by simp only [maxLen]; omega) (by omega) ?_); clear E S a; intro a w v11 C11 E S hB11
  refine zp E (zAe E rfl rfl) ?_; clear E a; intro a E
  refine wpList_nil ?_
  have S := (S.del (A := [(b10, _)]) (by repeat (first | exact pk1 | apply zAc))).front3 (A := C11) (by repeat (first | exact pk1 | apply zAc)) (B := [(b3, _)]) (by repeat (first | exact pk1 | apply zAc)) (C := [(b2, _)]) (by repeat (first | exact pk1 | apply zAc))
  refine zAf hK ?_; clear hK; clear K
  refine wp_seq_k ?_; intro K hK
  refine wp_block ?_
  refine wp_loop_ghost (fun (m : Nat) (a : Act) (w' : World) => ∃ (z : Nat) (v : Value) (C : zAs), m = padZ b.length - z ∧ z ≤ padZ b.length ∧ Buf C 5 1 v (b.length + 1 + z) (byt (b ++ [128] ++ List.replicate z 0)) ∧ St w0 As w' (C :: [(b3, cel (u32s sha0.l) 122)] :: [(b2, cel [.int .u64 0, .int .u64 0, .int .u64 0, .int .u64 0] 29)] :: As) ∧ Fr a 55 [(0, .slice ad0 b.length c0), (2, ptr b2), (3, ptr b3), (4, v)]) (padZ b.length - 0) ?_ ?_
  · exact ⟨0, v11, C11, rfl, by omega, by rw [List.replicate_zero, List.append_nil, zDs]; exact hB11, S, E.keep (zAb rfl (zAb rfl (zAb rfl (zAb rfl zAr))))⟩
  clear E; clear a; (try clear S); rintro m a w ⟨z, v, C, rfl, hz, hC, S, E⟩
  iterate 2 (refine wp_seq_k ?_; intro K hK)
  obtain ⟨adv, cv, rfl⟩ := hC.slice
  refine zAa ?_
  refine zp E (zAd E rfl rfl) ?_; clear E a; intro a E
  refine zp E (by first | exact zBv E rfl rfl rfl | exact zAx E rfl rfl rfl | exact zAp E rfl rfl rfl) ?_; clear E a; intro a E
  refine zp E (rn_rem E rfl rfl rfl (by decide) (by first | exact wr_lit (y := 64) | exact rfl)) ?_; clear E a; intro a E
  refine zp E (by first | exact zDa E rfl rfl rfl | exact zBc E rfl rfl rfl rfl | exact zBl E rfl rfl rfl rfl | exact zBg E rfl rfl rfl) ?_; clear E a; intro a E
  refine wpList_nil ?_
  refine zAf hK ?_; clear hK; clear K
  refine zBj E rfl (fun hb => ?_) (fun hb => ?_)
  · replace hb := Nrm.nrm hb
    refine wp_skip ?_
    refine zAf hK ?_; clear hK; clear K
    refine wp_block ?_
    refine zAa ?_
    refine zp E (zAd E rfl rfl) ?_; clear E a; intro a E
    refine zAm rfl (zEs (cells := [_]) E S rfl rfl (by decide) rfl rfl rfl rfl rfl (by decide) rfl ?_); clear E S a; intro a w b17 E S
    refine zAm rfl (zDi (by' := 1) E S rfl rfl (by decide) rfl rfl hC (by repeat (first | exact pk1 | apply zAc)) ((zGm (g := b17) (T := 5) (xs := [.int .u8 0]) (s := 1) (m := 1) rfl (by simp [Value.oneCell']) (by omega) 1).src (S.stab.at (by repeat (first | exact mm1 | assumption | apply List.Mem.tail))) rfl) rfl rfl rfl rfl rfl rfl (by simp only [maxLen]; omega) (by omega) ?_); clear E S a; intro a w v18 C18 E S hB18
    refine zp E (zAe E rfl rfl) ?_; clear E a; intro a E
    refine wpList_nil ?_
    refine zBo ?_
    refine zBn ?_
    rw [← pad_zero] at hB18
    exact ⟨_, by unfold padZ at *; omega, z + 1, v18, C18, rfl, by unfold padZ at *; omega, hB18, (S.del (A := [(b17, _)]) (by repeat (first | exact pk1 | apply zAc))).front3 (A := C18) (by repeat (first | exact pk1 | apply zAc)) (B := [(b3, _)]) (by repeat (first | exact pk1 | apply zAc)) (C := [(b2, _)]) (by repeat (first | exact pk1 | apply zAc)), E.keep (zAb rfl (zAb rfl (zAb rfl (zAb rfl zAr))))⟩
  · replace hb := Nrm.nrm hb
    refine wp_exit ?_
    refine zBf ?_; clear hK; clear K
    refine zBf ?_
    refine zCr ?_
    refine zAf hK ?_; clear hK; clear K
    iterate 2 (refine wp_seq_k ?_; intro K hK)
    have hzz : z = padZ b.length := by unfold padZ at *; omega
    subst hzz
    have hC : Buf C 5 1 (.slice adv (b.length + 1 + padZ b.length) cv) (b.length + 1 + padZ b.length) (byt (padH b)) := hC
    refine zAa ?_
    refine zp E (zAe E rfl rfl) ?_; clear E a; intro a E
    refine wpList_nil ?_
    refine zAf hK ?_; clear hK; clear K
    refine wp_block ?_
    refine wp_loop_ghost (fun (m : Nat) (a : Act) (w' : World) => ∃ (k : Nat) (v : Value) (C : zAs), m = 8 - k ∧ k ≤ 8 ∧ Buf C 5 1 v (b.length + 1 + padZ b.length + k) (byt (padH b ++ lenB (b.length * 8) k)) ∧ St w0 As w' (C :: [(b3, cel (u32s sha0.l) 122)] :: [(b2, cel [.int .u64 0, .int .u64 0, .int .u64 0, .int .u64 0] 29)] :: As) ∧ Fr a 55 [(0, .slice ad0 b.length c0), (2, ptr b2), (3, ptr b3), (4, v), (5, .int .i64 (56 - 8 * (k : Int)))]) (8 - 0) ?_ ?_
    · exact ⟨0, _, C, rfl, by omega, by rw [lenB, List.append_nil, Nat.add_zero]; exact hC, S, E.keep (zAb rfl (zAb rfl (zAb rfl (zAb rfl (zAb rfl zAr)))))⟩
    clear E; clear a; (try clear S); rintro m a w ⟨k, v, C, rfl, hk, hC, S, E⟩
    iterate 2 (refine wp_seq_k ?_; intro K hK)
    refine zAa ?_
    refine zp E (zAd E rfl rfl) ?_; clear E a; intro a E
    refine zp E (zGt E rfl rfl rfl) ?_; clear E a; intro a E
    refine wpList_nil ?_
    refine zAf hK ?_; clear hK; clear K
    refine zBj E rfl (fun hb => ?_) (fun hb => ?_)
    · replace hb := Nrm.nrm hb
      refine wp_skip ?_
      refine zAf hK ?_; clear hK; clear K
      refine wp_seq_k ?_; intro K hK
      refine wp_block ?_
      obtain ⟨adv, cv, rfl⟩ := hC.slice
      have hq1 : [UInt8.ofNat (b.length * 8 / 2 ^ (56 - 8 * k))].length = 1 := rfl
      refine zAa ?_
      iterate 2 (refine zp E (zAd E rfl rfl) ?_; clear E a; intro a E)
      refine zp E (by first | exact zBv E rfl rfl rfl | exact zAx E rfl rfl rfl | exact zAp E rfl rfl rfl) ?_; clear E a; intro a E
      refine zp E (by first | exact zBi E rfl rfl rfl rfl (by first | exact wu8 _ | exact zFj (by omega) | exact zDt (by omega) | exact w_in (by omega) | exact zCb (by omega) | exact rfl) | exact zBz E rfl rfl rfl rfl rfl (by assumption) (S.stab.at (by simp))) ?_; clear E a; intro a E
      refine zp E (zIa E rfl rfl rfl (zCb (by omega))) ?_; clear E a; intro a E
      refine zp E (zAd E rfl rfl) ?_; clear E a; intro a E
      refine zp E (zJy E rfl rfl rfl (by omega) (by simp only [IntKind.bits]; omega) rfl) ?_; clear E a; intro a E
      rw [shs (by omega)] at E
      refine zp E (zBi E rfl rfl rfl rfl (w8 _)) ?_; clear E a; intro a E
      refine zAm rfl (zEs (cells := [_]) E S rfl rfl (by decide) rfl rfl rfl rfl rfl (by decide) rfl ?_); clear E S a; intro a w b31 E S
      refine zAm rfl (zDi (by' := 1) E S rfl rfl (by decide) rfl rfl hC (by repeat (first | exact pk1 | apply zAc)) ((buf_bytes b31 [UInt8.ofNat (b.length * 8 / 2 ^ (56 - 8 * k))] 5 (by simp)).rd.src (S.stab.at (by repeat (first | exact mm1 | assumption | apply List.Mem.tail))) rfl) rfl rfl rfl rfl rfl rfl (by simp only [maxLen]; omega) (by omega) ?_); clear E S a; intro a w v32 C32 E S hB32
      refine zp E (zAe E rfl rfl) ?_; clear E a; intro a E
      refine wpList_nil ?_
      refine zBo ?_
      refine zAf hK ?_; clear hK; clear K
      refine zAa ?_
      refine zp E (zAd E rfl rfl) ?_; clear E a; intro a E
      refine zp E (zEw E rfl rfl rfl (w_in (by omega))) ?_; clear E a; intro a E
      refine zp E (zAe E rfl rfl) ?_; clear E a; intro a E
      refine wpList_nil ?_
      refine zBn ?_
      rw [show (56 - 8 * (k : Int)) - 8 = 56 - 8 * ((k + 1 : Nat) : Int) by omega] at E
      rw [← zDs, List.append_assoc, ← lenB_succ] at hB32
      exact ⟨_, by omega, k + 1, v32, C32, rfl, by omega, hB32, (S.del (A := [(b31, _)]) (by repeat (first | exact pk1 | apply zAc))).front3 (A := C32) (by repeat (first | exact pk1 | apply zAc)) (B := [(b3, _)]) (by repeat (first | exact pk1 | apply zAc)) (C := [(b2, _)]) (by repeat (first | exact pk1 | apply zAc)), E.keep (zAb rfl (zAb rfl (zAb rfl (zAb rfl (zAb rfl zAr)))))⟩
    · replace hb := Nrm.nrm hb
      refine wp_exit ?_
      refine zBf ?_; clear hK; clear K
      refine zBf ?_
      refine zCr ?_
      refine zAf hK ?_; clear hK; clear K
      refine wp_seq_k ?_; intro K hK
      refine wp_block ?_
      refine wp_loop_ghost (fun (m : Nat) (a : Act) (w' : World) => ∃ (j : Nat) (ad : Option Addr) (c : Nat), m = (padL b).length / 64 - j ∧ j ≤ (padL b).length / 64 ∧ (padL b).length - 64 * j ≤ c ∧ Rd C 1 (.slice ad ((padL b).length - 64 * j) c) ((padL b).length - 64 * j) (byt ((padL b).drop (64 * j))) ∧ St w0 As w' ([(b3, cel (u32s (shaH (padL b) j).l) 122)] :: C :: [(b2, cel [.int .u64 0, .int .u64 0, .int .u64 0, .int .u64 0] 29)] :: As) ∧ Fr a 55 [(2, ptr b2), (3, ptr b3), (4, .slice ad ((padL b).length - 64 * j) c)]) ((padL b).length / 64 - 0) ?_ ?_
      · obtain rfl : k = 8 := (by omega); rw [padH_len] at hC; obtain ⟨adv, cv, rfl, hcv⟩ := buf_hcap hC; have hlen : b.length + 1 + padZ b.length + 8 = (padL b).length - 64 * 0 := (by omega); rw [hlen] at hC E hcv; exact ⟨0, adv, cv, rfl, by omega, hcv, by rw [Nat.mul_zero, List.drop_zero]; exact hC.rd, S.front2 (by repeat (first | exact pk1 | apply zAc)) (by repeat (first | exact pk1 | apply zAc)), E.keep (zAb rfl (zAb rfl (zAb rfl zAr)))⟩
      clear E; clear a; (try clear S); rintro m a w ⟨j, ad, c, rfl, hj, hc, hR, S, E⟩
      iterate 2 (refine wp_seq_k ?_; intro K hK)
      refine zAa ?_
      refine zp E (zAd E rfl rfl) ?_; clear E a; intro a E
      refine zp E (by first | exact zBv E rfl rfl rfl | exact zAx E rfl rfl rfl | exact zAp E rfl rfl rfl) ?_; clear E a; intro a E
      refine zp E (zEi E rfl rfl rfl) ?_; clear E a; intro a E
      refine wpList_nil ?_
      refine zAf hK ?_; clear hK; clear K
      refine zBj E rfl (fun hb => ?_) (fun hb => ?_)
      · replace hb := Nrm.nrm hb
        refine wp_skip ?_
        refine zAf hK ?_; clear hK; clear K
        refine wp_seq_k ?_; intro K hK
        refine wp_block ?_
        have hjl : 64 * j + 64 ≤ (padL b).length := by omega
        obtain ⟨ad2, hs2, hR2⟩ := hR.cutc (lo := 0) (hi := 64) (by omega) (by omega) (by omega)
        rw [drop_blk] at hR2
        obtain ⟨g2, off2, rfl⟩ := hR2.addr (by omega)
        have hbk := blk_length (padL b) hjl
        refine zCa S (.ofL [(0, 0), (1, 0), (2, 0), (3, 0), (4, 0), (5, 1), (6, 1), (7, 3)]) (by kernel_rfl) (by kernel_rfl) ?_
        clear S; intro w S
        refine zm E rfl (fun w h => zFt E rfl rfl rfl (h.one (by repeat (first | exact mm1 | assumption | apply List.Mem.tail))) rfl) ?_; clear E a; intro a E
        refine zm E rfl (fun w h => zAd E rfl rfl) ?_; clear E a; intro a E
        refine zm E rfl (fun w h => zFq (s := 1) (hi := 64) E rfl rfl rfl rfl rfl rfl (by omega)) ?_; clear E a; intro a E
        rw [hs2] at E
        refine zm E rfl (fun w h => rn_s2a E rfl rfl rfl (by omega)) ?_; clear E a; intro a E
        refine zm E rfl (fun w h => zDj (vs := byt (blk (padL b) j)) E rfl rfl rfl (by rw [zDr, hbk]; rfl) (hR2.cells (h.at (by repeat (first | exact mm1 | assumption | apply List.Mem.tail))) rfl)) ?_; clear E a; intro a E
        refine zCn E rfl rfl rfl (by decide) rfl Tryz.func119 rfl (by kernel_rfl) rfl (schedule_ret (blk (padL b) j) hbk _) ?_
        rintro v43 w ⟨rfl, hT⟩; clear E a; intro a E
        have S := S.quiet hT
        refine ⟨S.stab.sub (by first | (simp; done) | (simp +contextual; done) | (simp [*]; done)), ?_⟩
        refine zCn E rfl rfl rfl (by decide) rfl Tryz.func118 rfl (by kernel_rfl) rfl (mixed_ret (shaH (padL b) j) (wsN (blk (padL b) j) 64) (zFe _ _) As hG _ S.tail3.hp) ?_
        rintro v44 w ⟨rfl, hT⟩; clear E a; intro a E
        have S := St.under [_, _, _] S hT
        refine ⟨S.stab.sub (by first | (simp; done) | (simp +contextual; done) | (simp [*]; done)), ?_⟩
        refine zCy rfl rfl (zJc E S rfl rfl rfl rfl (zKy _) rfl rfl (by repeat (first | exact pk1 | apply zAc)) (by rfl) ?_); clear E S a; intro a w E S
        refine zCd ?_
        refine zBo ?_
        refine zAf hK ?_; clear hK; clear K
        obtain ⟨ad3, hs3, hR3⟩ := hR.cutc (lo := 64) (hi := (padL b).length - 64 * j) (by omega) (by omega) (by omega)
        rw [drop_next (padL b) j ((padL b).length - 64 * j - 64) (by omega), show (padL b).length - 64 * j - 64 = (padL b).length - 64 * (j + 1) by omega] at hR3
        rw [show (padL b).length - 64 * j - 64 = (padL b).length - 64 * (j + 1) by omega] at hs3
        refine zAa ?_
        refine zp E (zAd E rfl rfl) ?_; clear E a; intro a E
        refine zp E (zKc (s := 1) (lo := 64) E rfl rfl rfl rfl rfl rfl (by omega)) ?_; clear E a; intro a E
        rw [hs3] at E
        refine zp E (zAe E rfl rfl) ?_; clear E a; intro a E
        refine wpList_nil ?_
        refine zBn ?_
        exact ⟨_, by omega, j + 1, ad3, c - 64, rfl, by omega, by omega, hR3, S, E.keep (zAb rfl (zAb rfl (zAb rfl zAr)))⟩
      · replace hb := Nrm.nrm hb
        refine wp_exit ?_
        refine zBf ?_; clear hK; clear K
        refine zBf ?_
        refine zCr ?_
        refine zAf hK ?_; clear hK; clear K
        refine wp_seq_k ?_; intro K hK
        obtain ⟨hh, hhe⟩ : ∃ hh, hh = shaH (padL b) ((padL b).length / 64) := ⟨_, rfl⟩
        obtain rfl : j = (padL b).length / 64 := by omega
        rw [← hhe] at S
        refine zAa ?_
        refine zp E (zEe E rfl rfl ⟨_, rfl⟩) ?_; clear E a; intro a E
        refine zp E (zAe E rfl rfl) ?_; clear E a; intro a E
        refine wpList_nil ?_
        refine zAf hK ?_; clear hK; clear K
        refine wp_seq_k ?_; intro K hK
        refine zAa ?_
        refine zp E (zAd E rfl rfl) ?_; clear E a; intro a E
        refine zCp E rfl rfl (by decide) rfl rfl Tryz.func120 rfl (by kernel_rfl) rfl (zIo hh b3 0 (by omega) _ (S.hp.sel (zAi (by repeat (first | exact pk1 | apply zAc)) (zAo _)))) ?_
        rintro v47 w ⟨rfl, hT⟩; clear E a; intro a E
        have S := S.call1 (zAi (by repeat (first | exact pk1 | apply zAc)) (zAo _)) hT
        refine zp E (zAd E rfl rfl) ?_; clear E a; intro a E
        refine zCp E rfl rfl (by decide) rfl rfl Tryz.func120 rfl (by kernel_rfl) rfl (zIo hh b3 2 (by omega) _ (S.hp.sel (zAi (by repeat (first | exact pk1 | apply zAc)) (zAo _)))) ?_
        rintro v49 w ⟨rfl, hT⟩; clear E a; intro a E
        have S := S.call1 (zAi (by repeat (first | exact pk1 | apply zAc)) (zAo _)) hT
        refine zp E (zAd E rfl rfl) ?_; clear E a; intro a E
        refine zCp E rfl rfl (by decide) rfl rfl Tryz.func120 rfl (by kernel_rfl) rfl (zIo hh b3 4 (by omega) _ (S.hp.sel (zAi (by repeat (first | exact pk1 | apply zAc)) (zAo _)))) ?_
        rintro v51 w ⟨rfl, hT⟩; clear E a; intro a E
        have S := S.call1 (zAi (by repeat (first | exact pk1 | apply zAc)) (zAo _)) hT
        refine zp E (zAd E rfl rfl) ?_; clear E a; intro a E
        refine zCp E rfl rfl (by decide) rfl rfl Tryz.func120 rfl (by kernel_rfl) rfl (zIo hh b3 6 (by omega) _ (S.hp.sel (zAi (by repeat (first | exact pk1 | apply zAc)) (zAo _)))) ?_
        rintro v53 w ⟨rfl, hT⟩; clear E a; intro a E
        have S := S.call1 (zAi (by repeat (first | exact pk1 | apply zAc)) (zAo _)) hT
        refine zp E (zCv (cells := [_, _, _, _]) E rfl rfl rfl) ?_; clear E a; intro a E
        refine zAm rfl (zBd E S rfl rfl rfl rfl (by simp [Value.oneCell']) rfl (by repeat (first | exact pk1 | apply zAc)) (by simp) ?_); clear E S a; intro a w E S; simp only [List.take_succ_cons, List.take_zero, List.drop_succ_cons, List.drop_zero, List.cons_append, List.nil_append, List.append_nil, List.length_cons, List.length_nil, Nat.zero_add, Nat.add_zero] at S
        refine wpList_nil ?_
        refine zAf hK ?_; clear hK; clear K
        refine wp_ret ?_
        refine zIi E rfl rfl (S.get (by repeat (first | exact pk1 | apply zAc))) rfl ?_
        exact ⟨_, rfl, by rw [shaF, ← hhe]; rfl, S.tail3.tr⟩
end Go.Proofs.YtbogecljkaimdaaGreatDoor
namespace Go.Sl
section
variable {P : Program} {a : Act} {o : Oper} {n : Nat} {e : List (Nat × Value)} {x y : Operand} {w : World}
end
theorem Tab.cells {As : List zAs} {g : Nat} {l : List Int} {w : World} (h : Tab As g l) (S : Stab As w) : ∀ i u, (u32s l)[i]? = some u → w.cell? ⟨g, 0 + i, none⟩ = some u := fun i u hu => by
  obtain ⟨G, hG, T, fr, hm⟩ := h
  rw [Nat.zero_add]
  exact zDp (S G hG _ hm) hu
theorem Tab.sub {As Bs : List zAs} {g : Nat} {l : List Int} (h : Tab As g l) (k : ∀ C ∈ As, C ∈ Bs) : Tab Bs g l := by
  obtain ⟨G, hG, r⟩ := h; exact ⟨G, k G hG, r⟩
end Go.Sl
namespace Go.Proofs.YtbogecljkaimdaaGreatDoor
open Go.Sl
set_option maxRecDepth 10000
end Go.Proofs.YtbogecljkaimdaaGreatDoor
namespace Go.Proofs.YtbogecljkaimdaaGreatDoor
open Go.Sl
set_option maxRecDepth 10000
theorem sumof2_ret (D : zAs) (v : Value) (b : List UInt8) (hD : Rd D 1 v b.length (byt b)) (hbl : b.length ≤ 140737488352000) (As : List zAs) (hDA : D ∈ As) (hG : Tab As 2 shaK) (w0 : World) (H : Hp w0 As) :
    Ret Tryz.prog 76 #[.int .i64 2, v] w0 fun u w' => u = .tuple #[(shaF b).agg, .int .i64 0] ∧ Trs w0 w' As As := by
  have S := St.begin H
  refine zCg 21 Tryz.func76 rfl rfl (by decide) ?_; intro a E
  refine wp_seq_k ?_; intro K hK
  refine zAa ?_
  refine zAm rfl (zBr E S rfl rfl (by decide) rfl rfl rfl ?_); clear E S a; intro a w b4 E S
  refine zp E (zAe E rfl rfl) ?_; clear E a; intro a E
  refine wpList_nil ?_
  refine zAf hK ?_; clear hK; clear K
  iterate 2 (refine wp_seq_k ?_; intro K hK)
  refine zAa ?_
  refine zp E (zAd E rfl rfl) ?_; clear E a; intro a E
  refine wpList_nil ?_
  refine zAf hK ?_; clear hK; clear K
  refine wp_block ?_
  refine wp_seq_k ?_; intro K hK
  refine zAa ?_
  refine zp E (by first | exact zCe E rfl rfl rfl | exact zAt E rfl rfl rfl rfl | exact zAz E rfl rfl rfl rfl | exact zAu E rfl rfl rfl) ?_; clear E a; intro a E
  refine zp E (zAe E rfl rfl) ?_; clear E a; intro a E
  refine wpList_nil ?_
  refine zAf hK ?_; clear hK; clear K
  refine zCl E rfl (rfl) ?_
  refine wp_seq_k ?_; intro K hK
  refine zAa ?_
  refine zp E (by first | exact zCe E rfl rfl rfl | exact zAt E rfl rfl rfl rfl | exact zAz E rfl rfl rfl rfl | exact zAu E rfl rfl rfl) ?_; clear E a; intro a E
  refine zp E (zAe E rfl rfl) ?_; clear E a; intro a E
  refine wpList_nil ?_
  refine zAf hK ?_; clear hK; clear K
  refine zBy E rfl (rfl) ?_
  refine wp_seq_k ?_; intro K hK
  refine zAa ?_
  refine zp E (zAd E rfl rfl) ?_; clear E a; intro a E
  refine zAn E rfl rfl (by decide) rfl Tryz.func105 rfl (by kernel_rfl) rfl (sha_ret D v b hD hbl As hDA hG _ S.tail.hp) ?_
  rintro v19 w ⟨rfl, hT⟩; clear E a; intro a E
  have S := St.under [_] S hT
  refine zAm rfl (zBd E S rfl rfl rfl rfl (by simp [Value.oneCell']) rfl (by repeat (first | exact pk1 | apply zAc)) (by simp) ?_); clear E S a; intro a w E S; simp only [List.take_succ_cons, List.take_zero, List.drop_succ_cons, List.drop_zero, List.cons_append, List.nil_append, List.append_nil, List.length_cons, List.length_nil, Nat.zero_add, Nat.add_zero] at S
  refine zp E (zAe E rfl rfl) ?_; clear E a; intro a E
  refine wpList_nil ?_
  refine zAf hK ?_; clear hK; clear K
  refine wp_ret ?_
  refine zCi ?_
  refine zAv ?_; clear hK; clear K
  refine ret_ct E rfl rfl rfl (S.get (by repeat (first | exact pk1 | apply zAc))) rfl ?_
  exact ⟨_, rfl, rfl, S.tail.tr⟩
end Go.Proofs.YtbogecljkaimdaaGreatDoor
namespace Go.Sl
def Fs.ws (s : Fs) : List Nat := [s.a, s.b, s.c, s.d]
def u64n (l : List Nat) : List Value := l.map fun (n : Nat) => Value.int .u64 (n : Int)
theorem u64n_at {l : List Nat} {i : Nat} (h : i < l.length) : (u64n l)[i]? = some (.int .u64 (l[i] : Int)) := by simp [u64n, h]
def zHr (l : List Nat) : List UInt8 := l.flatMap fun n => zBm n 8
def zFa (s : Fs) : List UInt8 := zHr s.ws
theorem wordsB_length (l : List Nat) : (zHr l).length = 8 * l.length := by
  induction l with
  | nil => rfl
  | cons a l ih =>
    have : zHr (a :: l) = zBm a 8 ++ zHr l := rfl
    rw [this, List.length_append, ih, zBa, List.length_cons]; omega
theorem wordsB_step {l : List Nat} {i : Nat} (h : i < l.length) : zHr (l.take (i + 1)) = zHr (l.take i) ++ zBm l[i] 8 := by
  rw [← List.take_append_getElem h]
  simp only [zHr, List.flatMap_append]
  simp
theorem zEj (s : Fs) : (zFa s).length = 32 := by rw [zFa, wordsB_length]; rfl
end Go.Sl
namespace Go.Proofs.YtbogecljkaimdaaGreatDoor
open Go.Sl
set_option maxRecDepth 10000
theorem zHv (s : Fs) (As : List zAs) (w0 : World) (H : Hp w0 As) :
    Ret Tryz.prog 32 #[s.agg] w0 fun u w' => ∃ C, Buf C 5 1 u 32 (byt (zFa s)) ∧ Trs w0 w' As (C :: As) := by
  have S := St.begin H
  obtain ⟨ws, hws⟩ : ∃ ws, ws = s.ws := ⟨_, rfl⟩
  have hwl : ws.length = 4 := by rw [hws]; rfl
  have hwc : u64n ws = [.int .u64 s.a, .int .u64 s.b, .int .u64 s.c, .int .u64 s.d] := by rw [hws]; rfl
  refine zDh 35 Tryz.func32 rfl rfl (by decide) ?_; intro a E
  refine wp_seq_k ?_; intro K hK
  refine zAa ?_
  refine zAm rfl (zCk E S rfl rfl (by decide) rfl rfl ?_); clear E S a; intro a w b1 E S
  refine zp E (zAe E rfl rfl) ?_; clear E a; intro a E
  refine wpList_nil ?_
  refine zAf hK ?_; clear hK; clear K
  refine wp_seq_k ?_; intro K hK
  refine zAa ?_
  refine zp E (zAe E rfl rfl) ?_; clear E a; intro a E
  refine wpList_nil ?_
  refine zAf hK ?_; clear hK; clear K
  iterate 2 (refine wp_seq_k ?_; intro K hK)
  refine zAa ?_
  refine zp E (by first | exact zAg (q := 0) E rfl rfl rfl | exact zAh (q := 0) E rfl rfl rfl) ?_; clear E a; intro a E
  refine zp E (by first | exact zAq E rfl rfl rfl (S.get (by repeat (first | exact pk1 | apply zAc))) rfl | exact zAl E rfl rfl rfl (by assumption)) ?_; clear E a; intro a E
  refine zp E (by first | exact zAg (q := 1) E rfl rfl rfl | exact zAh (q := 1) E rfl rfl rfl) ?_; clear E a; intro a E
  refine zp E (by first | exact zAq E rfl rfl rfl (S.get (by repeat (first | exact pk1 | apply zAc))) rfl | exact zAl E rfl rfl rfl (by assumption)) ?_; clear E a; intro a E
  refine zp E (by first | exact zAg (q := 2) E rfl rfl rfl | exact zAh (q := 2) E rfl rfl rfl) ?_; clear E a; intro a E
  refine zp E (by first | exact zAq E rfl rfl rfl (S.get (by repeat (first | exact pk1 | apply zAc))) rfl | exact zAl E rfl rfl rfl (by assumption)) ?_; clear E a; intro a E
  refine zp E (by first | exact zAg (q := 3) E rfl rfl rfl | exact zAh (q := 3) E rfl rfl rfl) ?_; clear E a; intro a E
  refine zp E (by first | exact zAq E rfl rfl rfl (S.get (by repeat (first | exact pk1 | apply zAc))) rfl | exact zAl E rfl rfl rfl (by assumption)) ?_; clear E a; intro a E
  refine zAm rfl (zEs (cells := [_, _, _, _]) E S rfl rfl (by decide) rfl rfl rfl rfl rfl (by decide) rfl ?_); clear E S a; intro a w b15 E S
  rw [← hwc] at S
  refine zp E (by first | exact zBv E rfl rfl rfl | exact zAx E rfl rfl rfl | exact zAp E rfl rfl rfl) ?_; clear E a; intro a E
  refine zp E (zAd E rfl rfl) ?_; clear E a; intro a E
  refine wpList_nil ?_
  refine zAf hK ?_; clear hK; clear K
  refine wp_block ?_
  refine wp_loop_ghost (fun (m : Nat) (a : Act) (w' : World) => ∃ (i : Nat) (C : zAs) (v : Value), m = 4 - i ∧ i ≤ 4 ∧ Buf C 5 1 v (8 * i) (byt (zHr (ws.take i))) ∧ St w0 As w' (C :: [(b15, cel (u64n ws) 27)] :: As) ∧ Fr a 35 [(3, v), (15, .slice (some ⟨b15, 0, none⟩) 4 4), (16, .int .i64 4), (17, .int .i64 i)]) (4) ?_ ?_
  · exact ⟨0, [], _, by omega, by omega, Buf.nil _ _, S.perm2.tail.addNil, E.keep (zAb rfl (zAb rfl (zAb rfl (zAb rfl zAr))))⟩
  clear E; clear a; (try clear S); rintro m a w ⟨i, C, v, rfl, hi, hB, S, E⟩
  refine wp_seq_k ?_; intro K hK
  refine zAa ?_
  refine zp E (zCw E rfl rfl rfl) ?_; clear E a; intro a E
  refine wpList_nil ?_
  refine zAf hK ?_; clear hK; clear K
  refine wp_seq_k ?_; intro K hK
  refine zBj E rfl (fun hb => ?_) (fun hb => ?_)
  · replace hb := Nrm.nrm hb
    refine wp_skip ?_
    refine zAf hK ?_; clear hK; clear K
    refine wp_seq_k ?_; intro K hK
    refine wp_block ?_
    refine wp_seq_k ?_; intro K hK
    have hil : i < ws.length := by omega
    refine zAa ?_
    refine zp E (by first | exact zBp E rfl rfl rfl rfl rfl rfl (by omega) | exact zBs E rfl rfl rfl rfl rfl rfl (by omega) | exact zBe E rfl rfl rfl rfl rfl rfl (by omega)) ?_; clear E a; intro a E
    refine zp E (zAl E rfl rfl rfl (by rw [Nat.zero_add]; exact zDp (S.get (by repeat (first | exact pk1 | apply zAc))) (u64n_at hil))) ?_; clear E a; intro a E
    refine zp E (zAe E rfl rfl) ?_; clear E a; intro a E
    refine wpList_nil ?_
    refine zAf hK ?_; clear hK; clear K
    refine wp_seq_k ?_; intro K hK
    refine zAa ?_
    refine zp E (zAd E rfl rfl) ?_; clear E a; intro a E
    refine wpList_nil ?_
    refine zAf hK ?_; clear hK; clear K
    refine wp_block ?_
    refine wp_loop_ghost (fun (m : Nat) (a : Act) (w' : World) => ∃ (j : Nat) (C : zAs) (v : Value), m = 8 - j ∧ j ≤ 8 ∧ Buf C 5 1 v (8 * i + j) (byt (zHr (ws.take i) ++ zBm ws[i] j)) ∧ St w0 As w' (C :: [(b15, cel (u64n ws) 27)] :: As) ∧ Fr a 35 [(3, v), (5, .int .u64 ws[i]), (15, .slice (some ⟨b15, 0, none⟩) 4 4), (16, .int .i64 4), (17, .int .i64 i), (21, .int .i64 j)]) (8) ?_ ?_
    · exact ⟨0, C, v, by omega, by omega, by simpa [zBm] using hB, S, E.keep (zAb rfl (zAb rfl (zAb rfl (zAb rfl (zAb rfl (zAb rfl zAr))))))⟩
    clear E; clear a; (try clear S); rintro m a w ⟨j, C, v, rfl, hj, hB, S, E⟩
    refine wp_seq_k ?_; intro K hK
    refine zAa ?_
    refine zp E (zCw E rfl rfl rfl) ?_; clear E a; intro a E
    refine wpList_nil ?_
    refine zAf hK ?_; clear hK; clear K
    refine wp_seq_k ?_; intro K hK
    refine zBj E rfl (fun hb => ?_) (fun hb => ?_)
    · replace hb := Nrm.nrm hb
      refine wp_skip ?_
      refine zAf hK ?_; clear hK; clear K
      refine wp_seq_k ?_; intro K hK
      refine wp_block ?_
      refine wp_seq_k ?_; intro K hK
      refine zAa ?_
      refine zp E (zAd E rfl rfl) ?_; clear E a; intro a E
      refine zp E (zAe E rfl rfl) ?_; clear E a; intro a E
      refine wpList_nil ?_
      refine zAf hK ?_; clear hK; clear K
      refine zAa ?_
      iterate 3 (refine zp E (zAd E rfl rfl) ?_; clear E a; intro a E)
      refine zp E (zIa E rfl rfl rfl (by first | exact zIw (x := 8) (by omega) | exact zGy (x := 8) (by omega) | exact w_in (by omega) | exact rfl)) ?_; clear E a; intro a E
      refine zp E (zJy E rfl rfl rfl (by omega) (by simp only [IntKind.bits]; omega) shru) ?_; clear E a; intro a E
      refine zp E (zBi E rfl rfl rfl rfl (w8 _)) ?_; clear E a; intro a E
      refine zAm rfl (zEs (cells := [_]) E S rfl rfl (by decide) rfl rfl rfl rfl rfl (by decide) rfl ?_); clear E S a; intro a w b30 E S
      refine zAm rfl (zDi (by' := 1) E S rfl rfl (by decide) rfl rfl hB (by repeat (first | exact pk1 | apply zAc)) ((zGm (g := b30) (T := 5) (xs := [.int .u8 (UInt8.ofNat (ws[i] / 2 ^ (8 * j))).toNat]) (s := 1) (m := 1) rfl (by simp [Value.oneCell']) (by omega) 1).src (S.stab.at (by repeat (first | exact mm1 | assumption | apply List.Mem.tail))) rfl) rfl rfl rfl rfl rfl rfl (by simp only [maxLen]; omega) (by omega) ?_); clear E S a; intro a w v31 C31 E S hB31
      refine zp E (zAe E rfl rfl) ?_; clear E a; intro a E
      refine wpList_nil ?_
      refine zBo ?_
      refine zAf hK ?_; clear hK; clear K
      refine zAa ?_
      refine zp E (zCc E rfl rfl rfl (by first | exact zCt (y := 1) (by omega) | exact w_in (by omega) | exact zCb (by omega) | exact rfl)) ?_; clear E a; intro a E
      refine zp E (zAd E rfl rfl) ?_; clear E a; intro a E
      refine wpList_nil ?_
      refine zBn ?_
      exact ⟨_, by omega, j + 1, C31, v31, rfl, by omega, by rw [zBm, ← List.append_assoc, zDs]; exact hB31, S.perm2.tail, E.keep (zAb rfl (zAb rfl (zAb rfl (zAb rfl (zAb rfl (zAb rfl zAr))))))⟩
    · replace hb := Nrm.nrm hb
      refine wp_exit ?_
      refine zBf ?_; clear hK; clear K
      refine zBf ?_
      refine zCr ?_
      refine zBo ?_
      refine zAf hK ?_; clear hK; clear K
      refine zAa ?_
      refine zp E (zCc E rfl rfl rfl (by first | exact zCt (y := 1) (by omega) | exact w_in (by omega) | exact zCb (by omega) | exact rfl)) ?_; clear E a; intro a E
      refine zp E (zAd E rfl rfl) ?_; clear E a; intro a E
      refine wpList_nil ?_
      refine zBn ?_
      obtain rfl : j = 8 := by omega
      exact ⟨_, by omega, i + 1, C, v, rfl, by omega, by rw [wordsB_step hil]; exact hB, S, E.keep (zAb rfl (zAb rfl (zAb rfl (zAb rfl zAr))))⟩
  · replace hb := Nrm.nrm hb
    refine wp_exit ?_
    refine zBf ?_; clear hK; clear K
    refine zBf ?_
    refine zCr ?_
    refine zAf hK ?_; clear hK; clear K
    refine wp_seq_k ?_; intro K hK
    refine zAa ?_
    refine zp E (zAd E rfl rfl) ?_; clear E a; intro a E
    refine zp E (zAe E rfl rfl) ?_; clear E a; intro a E
    refine wpList_nil ?_
    refine zAf hK ?_; clear hK; clear K
    refine wp_ret ?_
    refine ret1 E rfl rfl ?_
    obtain rfl : i = 4 := by omega
    rw [List.take_of_length_le (by omega), hws] at hB
    exact ⟨_, rfl, C, hB, S.perm2.tail.tr⟩
theorem over_ret (s : Fs) (D : zAs) (v : Value) (b : List UInt8) (hD : Rd D 1 v b.length (byt b)) (hbl : b.length ≤ 140737488351000) (As : List zAs) (hDA : D ∈ As) (hG : Tab As 2 shaK) (w0 : World) (H : Hp w0 As) :
    Ret Tryz.prog 31 #[v, s.agg] w0 fun u w' => u = (shaF (zFa s ++ b)).agg ∧ Trs w0 w' As As := by
  have S := St.begin H
  have hsl := zEj s
  refine zCg 16 Tryz.func31 rfl rfl (by decide) ?_; intro a E
  refine wp_seq_k ?_; intro K hK
  refine zAa ?_
  refine zAm rfl (zCk E S rfl rfl (by decide) rfl rfl ?_); clear E S a; intro a w b3 E S
  refine zAm rfl (zBr E S rfl rfl (by decide) rfl rfl rfl ?_); clear E S a; intro a w b4 E S
  refine wpList_nil ?_
  refine zAf hK ?_; clear hK; clear K
  refine wp_seq_k ?_; intro K hK
  refine zAa ?_
  refine zp E (zBq (vs := [_, _, _, _]) E rfl rfl rfl (S.get (by repeat (first | exact pk1 | apply zAc))) rfl rfl) ?_; clear E a; intro a E
  refine zAn E rfl rfl (by decide) rfl Tryz.func32 rfl (by kernel_rfl) rfl (zHv s _ _ S.hp) ?_
  rintro v9 w ⟨C, hC, hT⟩; clear E a; intro a E
  have S := S.all hT
  refine zp E (zAd E rfl rfl) ?_; clear E a; intro a E
  refine zAm rfl (zDi (by' := 1) E S rfl rfl (by decide) rfl rfl hC (by repeat (first | exact pk1 | apply zAc)) (hD.src (S.stab.at (List.Mem.tail _ (List.Mem.tail _ (List.Mem.tail _ hDA)))) rfl) rfl rfl rfl rfl rfl rfl (by simp only [maxLen]; omega) (by omega) ?_); clear E S a; intro a w v11 C11 E S hB11
  have hR : Rd C11 1 v11 (zFa s ++ b).length (byt (zFa s ++ b)) := by rw [List.length_append, hsl, zDs]; exact hB11.rd
  refine zAn E rfl rfl (by decide) rfl Tryz.func76 rfl (by kernel_rfl) rfl (sumof2_ret C11 v11 (zFa s ++ b) hR (by rw [List.length_append]; omega) _ (by repeat (first | exact mm1 | assumption | apply List.Mem.tail)) hG.tail.tail.tail _ S.hp) ?_
  rintro v12 w ⟨rfl, hT⟩; clear E a; intro a E
  have S := S.all hT
  refine zp E (zAd E rfl rfl) ?_; clear E a; intro a E
  iterate 2 (refine zp E (zBh E rfl rfl rfl) ?_; clear E a; intro a E)
  refine zAm rfl (zBr E S rfl rfl (by decide) rfl rfl rfl ?_); clear E S a; intro a w b5 E S
  refine zAm rfl (zBd E S rfl rfl rfl rfl (by simp [Value.oneCell']) rfl (by repeat (first | exact pk1 | apply zAc)) (by simp) ?_); clear E S a; intro a w E S; simp only [List.take_succ_cons, List.take_zero, List.drop_succ_cons, List.drop_zero, List.cons_append, List.nil_append, List.append_nil, List.length_cons, List.length_nil, Nat.zero_add, Nat.add_zero] at S
  refine zp E (zAe E rfl rfl) ?_; clear E a; intro a E
  refine wpList_nil ?_
  refine zAf hK ?_; clear hK; clear K
  refine wp_seq_k ?_; intro K hK
  refine zAa ?_
  refine zp E (zBq (vs := [_, _, _, _]) E rfl rfl rfl (S.get (by repeat (first | exact pk1 | apply zAc))) rfl rfl) ?_; clear E a; intro a E
  refine zAm rfl (zBd E S rfl rfl rfl rfl (by simp [Value.oneCell']) rfl (by repeat (first | exact pk1 | apply zAc)) (by simp) ?_); clear E S a; intro a w E S; simp only [List.take_succ_cons, List.take_zero, List.drop_succ_cons, List.drop_zero, List.cons_append, List.nil_append, List.append_nil, List.length_cons, List.length_nil, Nat.zero_add, Nat.add_zero] at S
  refine wpList_nil ?_
  refine zAf hK ?_; clear hK; clear K
  refine wp_ret ?_
  refine zIi E rfl rfl (S.get (by repeat (first | exact pk1 | apply zAc))) rfl ?_
  exact ⟨_, rfl, rfl, (S.tail3.tail).tr⟩
end Go.Proofs.YtbogecljkaimdaaGreatDoor
namespace Go.Sl
def headB (k : Int) (n : Nat) : List UInt8 := zBm k.toNat 1 ++ zBm n 4
theorem zIg (k : Int) (n : Nat) : (headB k n).length = 5 := by simp [headB, zBa]
def zGh (k : Int) (b : List UInt8) : List UInt8 := headB k b.length ++ b
def ownS (k : Int) (b : List UInt8) (s : Fs) : Fs := shaF (zFa s ++ zGh k b)
def zCz (k : Int) (b : List UInt8) (s : Fs) : List UInt8 := zGh k b ++ zFa (ownS k b s)
theorem zFb (k : Int) (b : List UInt8) : (zGh k b).length = 5 + b.length := by rw [zGh, List.length_append, zIg]
theorem zFc (k : Int) (b : List UInt8) (s : Fs) : (zCz k b s).length = 37 + b.length := by rw [zCz, List.length_append, zFb, zEj]; omega
end Go.Sl
namespace Go.Proofs.YtbogecljkaimdaaGreatDoor
open Go.Sl
set_option maxRecDepth 10000
theorem ckE_no {r : Rec} (h : ckE r ≠ 0) : ckB r = false := by
  cases hc : ckB r with
  | false => rfl
  | true => simp [ckE, hc] at h
theorem ckE_yes {r : Rec} (h : ckE r = 0) : ckB r = true := by
  cases hc : ckB r with
  | true => rfl
  | false => simp [ckE, hc] at h
theorem ckB_use {r : Rec} (h : ckB r = true) : inK r.kind ∧ mayK r.kind r = true := by
  simp only [ckB, Bool.and_eq_true, decide_eq_true_eq] at h
  exact ⟨h.1, h.2.1⟩
theorem body_le {r : Rec} {k : Int} (hk : inK k) (h : mayK k r = true) : (zDk k r).length ≤ 2048 := by
  rcases zEd hk with rfl | rfl | rfl | rfl | rfl | rfl | rfl
  · have := zLm h
    show (body1 r).length ≤ 2048
    simp only [body1, List.length_append, zCu, zBa]; omega
  · obtain ⟨q1, q2, q3, q4, q5, q6, q7⟩ := (zDz r).1 h
    have h1 := beh_len q1
    have h2 := zHq q6
    have h3 := zLn q7
    have h4 := propsL_le h3.2
    show (zLj r).length ≤ 2048
    simp only [zLj, List.length_append, zCu, zBa]; omega
  · have := zGg (l := r.keep) h
    show (body3 r).length ≤ 2048
    simp only [body3, List.length_append, zGf, zBa]; omega
  · have h : may4 r = true := h
    simp only [may4, Bool.and_eq_true, decide_eq_true_eq] at h
    have := zGg h.2.2
    show (body4 r).length ≤ 2048
    simp only [body4, List.length_append, zGf, zBa]; omega
  · have h : may5 r = true := h
    simp only [may5, Bool.and_eq_true, decide_eq_true_eq] at h
    show (zLk r).length ≤ 2048
    simp only [zLk, List.length_append, zBa]; omega
  · show (zLl r).length ≤ 2048
    simp only [zLl, zBa]; omega
  · show (zLl r).length ≤ 2048
    simp only [zLl, zBa]; omega
def encP (r : Rec) (s : Fs) (As : List zAs) (w0 : World) (u : Value) (w' : World) : Prop :=
  (ckB r = false ∧ u = .tuple #[.slice none 0 0, zEa.agg, .int .i64 200] ∧ Trs w0 w' As As) ∨
  (ckB r = true ∧ ∃ v D, u = .tuple #[v, (ownS r.kind (zDk r.kind r) s).agg, .int .i64 0] ∧ Buf D 5 1 v (zCz r.kind (zDk r.kind r) s).length (byt (zCz r.kind (zDk r.kind r) s)) ∧ Trs w0 w' As (D :: As))
theorem zKi {C : zAs} {r : Rec} {pv kv dv : Value} (hR : RecR C r pv kv dv) (hs : Sml r) (s : Fs) {As : List zAs} (hC : C ∈ As) (hG : Tab As 2 shaK) (w0 : World) (H : Hp w0 As) :
    Ret Tryz.prog 12 #[.agg (r.cells pv kv dv).toArray, s.agg] w0 (encP r s As w0) := by
  have S := St.begin H
  obtain ⟨ad1, c1, rfl⟩ := hR.pr.slice
  obtain ⟨ad2, c2, rfl⟩ := hR.kr.slice
  obtain ⟨ad3, c3, rfl⟩ := hR.dr.slice
  refine zCg 62 Tryz.func12 rfl rfl (by decide) ?_; intro a E
  refine wp_seq_k ?_; intro K hK
  refine zAa ?_
  refine zAm rfl (zCk E S rfl rfl (by decide) rfl rfl ?_); clear E S a; intro a w b2 E S
  refine zAm rfl (zCk E S rfl rfl (by decide) rfl rfl ?_); clear E S a; intro a w b3 E S
  refine zp E (zAe E rfl rfl) ?_; clear E a; intro a E
  refine zAm rfl (zBr E S rfl rfl (by decide) rfl rfl rfl ?_); clear E S a; intro a w b5 E S
  refine zp E (zAe E rfl rfl) ?_; clear E a; intro a E
  refine wpList_nil ?_
  refine zAf hK ?_; clear hK; clear K
  iterate 2 (refine wp_seq_k ?_; intro K hK)
  refine zAa ?_
  refine zp E (zBq (vs := [_, _, _, _, _, _, _, _, _, _, _, _, _]) E rfl rfl rfl (S.get (by repeat (first | exact pk1 | apply zAc))) rfl rfl) ?_; clear E a; intro a E
  refine zAn E rfl rfl (by decide) rfl Tryz.func11 rfl (by kernel_rfl) rfl (zHo hR hs (List.mem_cons_of_mem _ (List.mem_cons_of_mem _ (List.mem_cons_of_mem _ hC))) _ S.hp) ?_
  rintro v16 w ⟨rfl, hT⟩; clear E a; intro a E
  have S := S.all hT
  refine zp E (zAe E rfl rfl) ?_; clear E a; intro a E
  refine wpList_nil ?_
  refine zAf hK ?_; clear hK; clear K
  refine wp_seq_k ?_; intro K hK
  refine zAa ?_
  refine zp E (zAd E rfl rfl) ?_; clear E a; intro a E
  refine zp E (by first | exact zDa E rfl rfl rfl | exact zBc E rfl rfl rfl rfl | exact zBl E rfl rfl rfl rfl | exact zBg E rfl rfl rfl) ?_; clear E a; intro a E
  refine wpList_nil ?_
  refine zAf hK ?_; clear hK; clear K
  refine zBj E rfl (fun hb => ?_) (fun hb => ?_)
  · replace hb := Nrm.nrm hb
    have hck := ckE_no hb
    refine wp_seq_k ?_; intro K hK
    refine zAa ?_
    refine zp E (zCv (cells := [_, _, _, _]) E rfl rfl rfl) ?_; clear E a; intro a E
    refine zp E (zAd E rfl rfl) ?_; clear E a; intro a E
    refine zp E (zAe E rfl rfl) ?_; clear E a; intro a E
    refine zAm rfl (zBd E S rfl rfl rfl rfl (by simp [Value.oneCell']) rfl (by repeat (first | exact pk1 | apply zAc)) (by simp) ?_); clear E S a; intro a w E S; simp only [List.take_succ_cons, List.take_zero, List.drop_succ_cons, List.drop_zero, List.cons_append, List.nil_append, List.append_nil, List.length_cons, List.length_nil, Nat.zero_add, Nat.add_zero] at S
    refine zp E (zAe E rfl rfl) ?_; clear E a; intro a E
    refine wpList_nil ?_
    refine zAf hK ?_; clear hK; clear K
    refine wp_ret ?_
    refine zAv ?_; clear hK; clear K
    refine ret_tct E rfl rfl rfl rfl (S.get (by repeat (first | exact pk1 | apply zAc))) rfl ?_
    exact ⟨_, rfl, .inl ⟨hck, by rw [show ckE r = 200 by simp [ckE, hck]]; rfl, S.tail3.tr⟩⟩
  · replace hb := Nrm.nrm hb
    have hck := ckE_yes hb
    refine wp_skip ?_
    refine zAf hK ?_; clear hK; clear K
    refine wp_seq_k ?_; intro K hK
    obtain ⟨hk, hm⟩ := ckB_use hck
    obtain ⟨fn, q1, q2, q3⟩ := layF_fn hk
    obtain ⟨ix, hrow⟩ := row_is hk
    have hbl := body_le hk hm
    refine zAa ?_
    refine zAn E rfl rfl (by decide) rfl Tryz.func28 rfl (by kernel_rfl) rfl (zKe 2048 _) ?_
    rintro v21 w ⟨p, A, rfl, hA, hT⟩; clear E a; intro a E
    have S := S.fresh hT
    refine zp E (zAe E rfl rfl) ?_; clear E a; intro a E
    refine wpList_nil ?_
    refine zAf hK ?_; clear hK; clear K
    refine wp_seq_k ?_; intro K hK
    refine zDm S (.ofL [(1, 0), (2, 0), (5, 0), (6, 0), (0, 1), (3, 1), (4, 0), (7, 3)]) [[(b2, cel (r.cells (.slice ad1 r.props.length c1) (.slice ad2 r.keep.length c2) (.slice ad3 r.data.length c3)) 26)]] (fun h => h.sub (by first | (simp; done) | (simp +contextual; done) | (simp [*]; done))) (by kernel_rfl) (by kernel_rfl) ?_
    clear S; intro w S
    refine zm E rfl (fun w h => by first | exact zAg (q := 0) E rfl rfl rfl | exact zAh (q := 0) E rfl rfl rfl) ?_; clear E a; intro a E
    refine zm E rfl (fun w h => by first | exact zAq E rfl rfl rfl (h.one (by repeat (first | exact mm1 | assumption | apply List.Mem.tail))) rfl | exact zAl E rfl rfl rfl (by assumption)) ?_; clear E a; intro a E
    refine zm E rfl (fun w h => zAd E rfl rfl) ?_; clear E a; intro a E
    refine zm E rfl (fun w h => zBq (vs := [_, _, _, _, _, _, _, _, _, _, _, _, _]) E rfl rfl rfl (h.one (by repeat (first | exact mm1 | assumption | apply List.Mem.tail))) rfl rfl) ?_; clear E a; intro a E
    refine zCn E rfl rfl rfl (by decide) rfl Tryz.func25 rfl (by kernel_rfl) rfl (zIm _ _ S.hp) ?_
    rintro v22 w ⟨g, rfl, hT⟩; clear E a; intro a E
    have S := S.all hT
    refine ⟨S.stab.sub (by first | (simp; done) | (simp +contextual; done) | (simp [*]; done)), ?_⟩
    refine zDg rfl rfl (zFs E (rn_lookup1 (v := .agg [fnv (mayF r.kind), fnv (layF r.kind), fnv (takF r.kind)].toArray) E rfl rfl rfl rfl rfl (S.get (by repeat (first | exact pk1 | apply zAc))) hrow) rfl (by decide) ?_); clear E a; intro a E; refine ⟨S.stab.sub (by first | (simp; done) | (simp +contextual; done) | (simp [*]; done)), ?_⟩
    refine zm E rfl (fun w h => rn_field E rfl rfl rfl rfl rfl rfl rfl) ?_; clear E a; intro a E
    have S := S.front1 (A := A) (by repeat (first | exact pk1 | apply zAc))
    refine mix_callc3 E rfl rfl rfl (by decide) rfl rfl q1 q2 q3 rfl (layK_ret hR (by repeat (first | exact mm1 | assumption | apply List.Mem.tail)) p A hA _ S.hp hk hm) ?_
    rintro v29 w ⟨A1, hA1, hT⟩; clear E a; intro a E
    have S := S.all hT
    refine zCd ?_
    refine zAf hK ?_; clear hK; clear K
    refine wp_seq_k ?_; intro K hK
    obtain ⟨body, hbody⟩ : ∃ body, body = zDk r.kind r := ⟨_, rfl⟩
    rw [← hbody] at hA1 hbl
    refine zAa ?_
    refine zp E (zAd E rfl rfl) ?_; clear E a; intro a E
    refine zAn E rfl rfl (by decide) rfl Tryz.func29 rfl (by kernel_rfl) rfl (done_fit p 2048 body A1 _ hA1 (S.hp.sel (zAi (by repeat (first | exact pk1 | apply zAc)) (zAo _))) (by omega)) ?_
    rintro v32 w ⟨g1, rfl, hT⟩; clear E a; intro a E
    have S := S.call2 (zAi (by repeat (first | exact pk1 | apply zAc)) (zAo _)) hT
    refine zp E (zAd E rfl rfl) ?_; clear E a; intro a E
    iterate 2 (refine zp E (zBh E rfl rfl rfl) ?_; clear E a; intro a E)
    iterate 2 (refine zp E (zAe E rfl rfl) ?_; clear E a; intro a E)
    refine wpList_nil ?_
    refine zAf hK ?_; clear hK; clear K
    refine wp_seq_k ?_; intro K hK
    replace E := E.keep (e' := [(2, _), (3, _), (4, _), (5, _), (6, _), (9, _)]) (zAb rfl (zAb rfl (zAb rfl (zAb rfl (zAb rfl (zAb rfl (zAr)))))))
    refine zAa ?_
    refine zAn E rfl rfl (by decide) rfl Tryz.func28 rfl (by kernel_rfl) rfl (zKe 5 _) ?_
    rintro v35 w ⟨p2, B, rfl, hB, hT⟩; clear E a; intro a E
    have S := S.fresh hT
    refine zp E (zAe E rfl rfl) ?_; clear E a; intro a E
    refine wpList_nil ?_
    refine zAf hK ?_; clear hK; clear K
    refine wp_seq_k ?_; intro K hK
    refine zAa ?_
    refine zp E (zAd E rfl rfl) ?_; clear E a; intro a E
    refine zp E (by first | exact zAg (q := 0) E rfl rfl rfl | exact zAh (q := 0) E rfl rfl rfl) ?_; clear E a; intro a E
    refine zp E (by first | exact zAq E rfl rfl rfl (S.get (by repeat (first | exact pk1 | apply zAc))) rfl | exact zAl E rfl rfl rfl (by assumption)) ?_; clear E a; intro a E
    refine zp E (zBi E rfl rfl rfl rfl (zJi (by have := hk.1; omega) (by have := hk.2; omega))) ?_; clear E a; intro a E
    refine zAn E rfl rfl (by decide) rfl Tryz.func30 rfl (by kernel_rfl) rfl (zEg p2 5 [] B _ hB r.kind.toNat 1 (S.hp.sel (zAi (by repeat (first | exact pk1 | apply zAc)) (zAo _))) (by omega) (by omega) (by omega) (by have := hk.2; omega) (by simp only [List.length_nil]; omega)) ?_
    rintro v40 w ⟨B1, hB1, hT⟩; clear E a; intro a E
    have S := S.call1 (zAi (by repeat (first | exact pk1 | apply zAc)) (zAo _)) hT
    refine wpList_nil ?_
    refine zAf hK ?_; clear hK; clear K
    refine wp_seq_k ?_; intro K hK
    refine zAa ?_
    iterate 2 (refine zp E (zAd E rfl rfl) ?_; clear E a; intro a E)
    refine zp E (by first | exact zBv E rfl rfl rfl | exact zAx E rfl rfl rfl | exact zAp E rfl rfl rfl) ?_; clear E a; intro a E
    refine zp E (by first | exact zBi E rfl rfl rfl rfl (by first | exact wu8 _ | exact zFj (by omega) | exact zDt (by omega) | exact w_in (by omega) | exact zCb (by omega) | exact rfl) | exact zBz E rfl rfl rfl rfl rfl (by assumption) (S.stab.at (by simp))) ?_; clear E a; intro a E
    refine zAn E rfl rfl (by decide) rfl Tryz.func30 rfl (by kernel_rfl) rfl (zEg p2 5 _ B1 _ hB1 body.length 4 (S.hp.sel (zAi (by repeat (first | exact pk1 | apply zAc)) (zAo _))) (by omega) (by omega) (by omega) (by omega) (by simp only [List.nil_append, zBa]; omega)) ?_
    rintro v45 w ⟨B2, hB2, hT⟩; clear E a; intro a E
    have S := S.call1 (zAi (by repeat (first | exact pk1 | apply zAc)) (zAo _)) hT
    refine wpList_nil ?_
    refine zAf hK ?_; clear hK; clear K
    refine wp_seq_k ?_; intro K hK
    have hhd : [] ++ zBm r.kind.toNat 1 ++ zBm body.length 4 = headB r.kind body.length := rfl
    rw [hhd] at hB2
    obtain ⟨hd, hhd2⟩ : ∃ hd, hd = headB r.kind body.length := ⟨_, rfl⟩
    rw [← hhd2] at hB2
    have hdl : hd.length = 5 := by rw [hhd2, zIg]
    refine zAa ?_
    refine zp E (zAd E rfl rfl) ?_; clear E a; intro a E
    refine zAn E rfl rfl (by decide) rfl Tryz.func29 rfl (by kernel_rfl) rfl (done_fit p2 5 hd B2 _ hB2 (S.hp.sel (zAi (by repeat (first | exact pk1 | apply zAc)) (zAo _))) (by omega)) ?_
    rintro v48 w ⟨g2, rfl, hT⟩; clear E a; intro a E
    have S := S.call2 (zAi (by repeat (first | exact pk1 | apply zAc)) (zAo _)) hT
    refine zp E (zAd E rfl rfl) ?_; clear E a; intro a E
    iterate 2 (refine zp E (zBh E rfl rfl rfl) ?_; clear E a; intro a E)
    iterate 2 (refine zp E (zAe E rfl rfl) ?_; clear E a; intro a E)
    refine wpList_nil ?_
    refine zAf hK ?_; clear hK; clear K
    refine wp_seq_k ?_; intro K hK
    replace E := E.keep (e' := [(3, _), (4, _), (5, _), (6, _), (9, _), (12, _)]) (zAb rfl (zAb rfl (zAb rfl (zAb rfl (zAb rfl (zAb rfl (zAr)))))))
    refine zAa ?_
    iterate 2 (refine zp E (zAd E rfl rfl) ?_; clear E a; intro a E)
    refine zAm rfl (zDi (by' := 1) E S rfl rfl (by decide) rfl rfl (buf_bytes g2 hd 5 (by omega)) (by repeat (first | exact pk1 | apply zAc)) ((zLb (g := g1) (b := body) (T := 5) rfl (by omega) body.length).src (S.stab.at (by repeat (first | exact mm1 | assumption | apply List.Mem.tail))) rfl) rfl rfl rfl rfl rfl rfl (by simp only [maxLen]; omega) (by omega) ?_); clear E S a; intro a w v53 C53 E S hB53
    refine zp E (zAe E rfl rfl) ?_; clear E a; intro a E
    refine wpList_nil ?_
    refine zAf hK ?_; clear hK; clear K
    refine wp_seq_k ?_; intro K hK
    obtain ⟨fb, hfb⟩ : ∃ fb, fb = zGh r.kind body := ⟨_, rfl⟩
    have hfl : fb.length = 5 + body.length := by rw [hfb, zFb]
    have hfr : Buf C53 5 1 v53 fb.length (byt fb) := by
      have e5 : fb.length = hd.length + body.length := by omega
      rw [e5, hfb, zGh, ← hhd2, zDs]
      exact hB53
    refine zAa ?_
    refine zp E (zAd E rfl rfl) ?_; clear E a; intro a E
    refine zp E (zBq (vs := [_, _, _, _]) E rfl rfl rfl (S.get (by repeat (first | exact pk1 | apply zAc))) rfl rfl) ?_; clear E a; intro a E
    refine zAn E rfl rfl (by decide) rfl Tryz.func31 rfl (by kernel_rfl) rfl (over_ret s C53 v53 fb hfr.rd (by omega) _ (by repeat (first | exact mm1 | assumption | apply List.Mem.tail)) (by repeat (first | exact hG | apply Tab.tail)) _ S.hp) ?_
    rintro v56 w ⟨he, hT⟩; clear E a; intro a E
    have S := S.all hT; obtain ⟨own, hown⟩ : ∃ own, own = shaF (zFa s ++ fb) := ⟨_, rfl⟩; rw [← hown] at he; subst he
    refine zAm rfl (zBr E S rfl rfl (by decide) rfl rfl rfl ?_); clear E S a; intro a w b14 E S
    refine zAm rfl (zBd E S rfl rfl rfl rfl (by simp [Value.oneCell']) rfl (by repeat (first | exact pk1 | apply zAc)) (by simp) ?_); clear E S a; intro a w E S; simp only [List.take_succ_cons, List.take_zero, List.drop_succ_cons, List.drop_zero, List.cons_append, List.nil_append, List.append_nil, List.length_cons, List.length_nil, Nat.zero_add, Nat.add_zero] at S
    refine wpList_nil ?_
    refine zAf hK ?_; clear hK; clear K
    refine wp_seq_k ?_; intro K hK
    refine zDm S (.ofL [(0, 0), (1, 0), (4, 0), (2, 1), (3, 1), (5, 0), (6, 3), (7, 2)]) [[(b14, cel [.int .u64 own.a, .int .u64 own.b, .int .u64 own.c, .int .u64 own.d] 29)]] (fun h => h.sub (by first | (simp; done) | (simp +contextual; done) | (simp [*]; done))) (by kernel_rfl) (by kernel_rfl) ?_
    clear S; intro w S
    refine zm E rfl (fun w h => zAd E rfl rfl) ?_; clear E a; intro a E
    iterate 2 (refine zm E rfl (fun w h => zBq (vs := [_, _, _, _]) E rfl rfl rfl (h.one (by repeat (first | exact mm1 | assumption | apply List.Mem.tail))) rfl rfl) ?_; clear E a; intro a E)
    refine zCn E rfl rfl rfl (by decide) rfl Tryz.func32 rfl (by kernel_rfl) rfl (zHv own _ _ S.hp) ?_
    rintro v59 w ⟨D2, hD2, hT⟩; clear E a; intro a E
    have S := S.all hT
    refine ⟨S.stab.sub (by first | (simp; done) | (simp +contextual; done) | (simp [*]; done)), ?_⟩
    refine zDg rfl rfl (zDi (by' := 1) E S rfl rfl (by decide) rfl rfl hfr (by repeat (first | exact pk1 | apply zAc)) (hD2.rd.src (S.stab.at (by repeat (first | exact mm1 | assumption | apply List.Mem.tail))) rfl) rfl rfl rfl rfl rfl rfl (by simp only [maxLen]; omega) (by omega) ?_); clear E S a; intro a w v60 C60 E S hB60; refine ⟨S.stab.sub (by first | (simp; done) | (simp +contextual; done) | (simp [*]; done)), ?_⟩
    refine zm E rfl (fun w h => zAe E rfl rfl) ?_; clear E a; intro a E
    refine zCy rfl rfl (zBd E S rfl rfl rfl rfl (by simp [Value.oneCell']) rfl (by repeat (first | exact pk1 | apply zAc)) (by simp) ?_); clear E S a; intro a w E S; simp only [List.take_succ_cons, List.take_zero, List.drop_succ_cons, List.drop_zero, List.cons_append, List.nil_append, List.append_nil, List.length_cons, List.length_nil, Nat.zero_add, Nat.add_zero] at S
    refine zCs E rfl rfl rfl (by decide) (fun w => zAe E rfl rfl) ?_; clear E a; intro a E
    refine zCd ?_
    refine zAf hK ?_; clear hK; clear K
    refine wp_ret ?_
    refine ret_tct E rfl rfl rfl rfl (S.get (by repeat (first | exact pk1 | apply zAc))) rfl ?_
    have hlen := zEj own
    have hpb : zCz r.kind (zDk r.kind r) s = fb ++ zFa own := by rw [zCz, ownS, ← hbody, ← hfb, ← hown]
    have howns : ownS r.kind (zDk r.kind r) s = own := by rw [ownS, ← hbody, ← hfb, ← hown]
    refine ⟨_, rfl, .inr ⟨hck, v60, C60, by rw [howns], ?_, ?_⟩⟩
    · rw [hpb, zDs, List.length_append, hlen]; exact hB60
    · exact (St.drops [_, _, _, _, _, _, _, _, _] (S.front1 (A := C60) (by repeat (first | exact pk1 | apply zAc)))).tr
end Go.Proofs.YtbogecljkaimdaaGreatDoor
