/-
  Disks: what writes do, plain; one disk; the law's example.
-/
import Derived.Test.YtpppaohhnlgfoaaDiskU
namespace Go.Sl
/-- What one disk's platter becomes. -/
def upS (d : Nat) : List Wt → List Bool → List UInt8 → List UInt8
  | [], _, pl => pl
  | w :: ws, st, pl => upS d ws st.tail (if st.head? = some true ∧ w.d = d then setS pl w.at_ w.b else pl)
theorem upW_map : ∀ (ws : List Wt) (st : List Bool) (ds : List Dk), upW ws st ds = ds.map fun x => { x with pl := upS x.d ws st x.pl }
  | [], st, ds => by
    conv => lhs; rw [upW, ← List.map_id ds]
    rfl
  | w :: ws, st, ds => by
    rw [upW, upW_map ws st.tail]
    by_cases h : st.head? = some true
    · rw [if_pos h, putD, List.map_map]
      refine List.map_congr_left fun x _ => ?_
      simp only [Function.comp]
      by_cases hd : x.d = w.d
      · simp only [if_pos hd, upS]; rw [if_pos ⟨h, hd.symm⟩]
      · simp only [if_neg hd, upS]; rw [if_neg (fun q => hd q.2.symm)]
    · rw [if_neg h]
      refine List.map_congr_left fun x _ => ?_
      simp only [upS]; rw [if_neg (fun q => h q.1)]
theorem upS_none (d : Nat) : ∀ (ws : List Wt) (pl : List UInt8), upS d ws [] pl = pl
  | [], pl => rfl
  | w :: ws, pl => by rw [upS, if_neg (by simp)]; exact upS_none d ws pl
theorem upS_length {d n : Nat} : ∀ {ws : List Wt} {st : List Bool} {pl : List UInt8}, pl.length = n → (∀ w ∈ ws, w.d = d → 128 * w.at_ + 128 ≤ n) → (upS d ws st pl).length = n
  | [], _, _, h, _ => h
  | w :: ws, st, pl, h, hw => by
    rw [upS]
    refine upS_length (n := n) ?_ fun x hx => hw x (List.mem_cons_of_mem _ hx)
    split
    · rename_i q; rw [setS_length (by rw [h]; exact hw w (List.mem_cons_self ..) q.2) w.hb]; exact h
    · exact h
/-- Writing goes all through. -/
theorem wrN_big {d a : Nat} {b : List UInt8} : ∀ (k i : Nat) (s : Pw) (nw : List UInt8) (ws : List Wt), s.left < 0 ∨ (k : Int) ≤ s.left →
    (wrN d a b k i s nw ws).2.2.2 = 0 ∧ (wrN d a b k i s nw ws).1.off = s.off ∧ (wrN d a b k i s nw ws).1.wr = s.wr + k ∧ (wrN d a b k i s nw ws).2.2.1.length = ws.length + k ∧ (s.left < 0 → (wrN d a b k i s nw ws).1.left = s.left)
  | 0, i, s, nw, ws, _ => by simp [wrN]
  | k + 1, i, s, nw, ws, h => by
    rw [wrN, if_neg (by omega)]
    have := wrN_big (d := d) (a := a) (b := b) k (i + 1) { s with left := if 0 < s.left then s.left - 1 else s.left, wr := s.wr + 1 } (setS nw (a + i) (secB b i)) (ws ++ [mkW d (a + i) (secB b i)]) (by simp only; split <;> omega)
    obtain ⟨h1, h2, h3, h4, h5⟩ := this
    refine ⟨h1, h2, by rw [h3]; simp only; omega, by rw [h4, List.length_append, List.length_singleton]; omega, fun hn => ?_⟩
    rw [h5 (by simp only; rw [if_neg (by omega)]; exact hn)]; simp only; rw [if_neg (by omega)]
/-- The power goes out. -/
theorem wrN_cut {d a : Nat} {b : List UInt8} : ∀ (k i : Nat) (s : Pw) (nw : List UInt8) (ws : List Wt), 0 ≤ s.left → s.left < (k : Int) →
    (wrN d a b k i s nw ws).2.2.2 = 5 ∧ (wrN d a b k i s nw ws).1.off = true ∧ ((wrN d a b k i s nw ws).1.wr : Int) = s.wr + s.left ∧ ((wrN d a b k i s nw ws).2.2.1.length : Int) = ws.length + s.left
  | 0, i, s, nw, ws, h1, h2 => by omega
  | k + 1, i, s, nw, ws, h1, h2 => by
    rw [wrN]
    by_cases h0 : s.left = 0
    · rw [if_pos h0]; simp [h0]
    · rw [if_neg h0]
      have := wrN_cut (d := d) (a := a) (b := b) k (i + 1) { s with left := if 0 < s.left then s.left - 1 else s.left, wr := s.wr + 1 } (setS nw (a + i) (secB b i)) (ws ++ [mkW d (a + i) (secB b i)]) (by simp only; split <;> omega) (by simp only; split <;> omega)
      obtain ⟨g1, g2, g3, g4⟩ := this
      refine ⟨g1, g2, ?_, ?_⟩
      · rw [g3]; simp only; rw [if_pos (by omega)]; omega
      · rw [g4, List.length_append, List.length_singleton]; simp only; rw [if_pos (by omega)]; omega
/-- What waits lies on the disk. -/
theorem wrN_fit {d a n : Nat} {b : List UInt8} (P : Wt → Prop) (hP : ∀ j b', 128 * j + 128 ≤ n → P (mkW d j b')) : ∀ (k i : Nat) (s : Pw) (nw : List UInt8) (ws : List Wt), 128 * (a + i + k) ≤ n → (∀ w ∈ ws, P w) → ∀ w ∈ (wrN d a b k i s nw ws).2.2.1, P w
  | 0, i, s, nw, ws, _, h => by simpa [wrN] using h
  | k + 1, i, s, nw, ws, hk, h => by
    rw [wrN]
    split
    · exact h
    · refine wrN_fit P hP k (i + 1) _ _ _ (by omega) fun w hw => ?_
      rcases List.mem_append.1 hw with h1 | h1
      · exact h w h1
      · rw [List.mem_singleton.1 h1]; exact hP _ _ (by omega)
theorem wrS_fit {d n : Nat} {at_ : Int} {b : List UInt8} (P : Wt → Prop) (hP : ∀ j b', 128 * j + 128 ≤ n → P (mkW d j b')) (s : Pw) (f : Bool) (nw : List UInt8) (ws : List Wt) (h : ∀ w ∈ ws, P w) : ∀ w ∈ (wrS d n at_ b s f nw ws).2.2.1, P w := by
  unfold wrS
  split; exact h
  split; exact h
  split; exact h
  rename_i hm
  have hm : wrMay n at_ b := Decidable.byContradiction hm
  obtain ⟨h1, h2, h3, h4⟩ := hm
  exact wrN_fit P hP _ _ _ _ _ (by omega) h
theorem secB_all {b : List UInt8} (h : b.length = 128) : secB b 0 = b := by rw [secB, Nat.mul_zero, List.drop_zero, List.take_of_length_le (by omega)]
theorem wr_one {d n a : Nat} {b : List UInt8} (hb : b.length = 128) (ha : 128 * a + 128 ≤ n) (s : Pw) (hs : s.off = false) (hl : s.left < 0) (nw : List UInt8) (ws : List Wt) :
    wrS d n a b s false nw ws = (⟨s.left, false, s.wr + 1⟩, setS nw a b, ws ++ [mkW d a b], 0) := by
  have hm : wrMay n a b := ⟨by omega, by omega, by omega, by omega⟩
  unfold wrS
  rw [if_neg (by simp [hs]), if_neg (by simp), if_neg (fun q => q hm), hb, Int.toNat_natCast, show 128 / 128 = 0 + 1 from rfl, wrN, if_neg (by omega), if_neg (by omega), wrN, hs, secB_all hb]
  rfl
end Go.Sl
namespace Go.Proofs.Ytpppaohhnlgfoaa
open Go.Sl
set_option maxRecDepth 10000

theorem up1_ret (p d gp gn n : Nat) (f : Bool) (s : Pw) (vw vd : Value) (pl nw : List UInt8) (hpl : pl.length = n) (hnw : nw.length = n) (hn : n ≤ 1048576) (ws : List Wt) (Cw : Chunk) (hCw : Buf Cw 65 130 vw ws.length (wl ws)) (Cd : Chunk) (hCd : Buf Cd 27 1 vd 1 [ptr d])
    (hws : ∀ w ∈ ws, w.d = d ∧ 128 * w.at_ + 128 ≤ n) (v : Value) (st : List Bool) (O : Chunk) (hO : Rd O 1 v st.length (st.map Value.bool)) (As : List Chunk) (hOA : O ∈ As) (w0 : World)
    (H : Hp w0 ([(p, pcl s vw vd)] :: Cw :: Cd :: [(d, dcl p gp gn n f)] :: [(gp, cel (byt pl) 5)] :: [(gn, cel (byt nw) 5)] :: As)) :
    Ret Try.prog 14 #[ptr p, v] w0 fun _ w' => Trs w0 w' ([(p, pcl s vw vd)] :: Cw :: Cd :: [(d, dcl p gp gn n f)] :: [(gp, cel (byt pl) 5)] :: [(gn, cel (byt nw) 5)] :: As)
      ([(p, pcl ⟨-1, false, s.wr⟩ (.slice none 0 0) vd)] :: Cd :: [(d, dcl p gp gn n f)] :: [(gp, cel (byt (upS d ws st pl)) 5)] :: [(gn, cel (byt (upS d ws st pl)) 5)] :: As) := by
  subst hpl
  have hu := upS_length (d := d) (n := pl.length) (ws := ws) (st := st) (pl := pl) rfl fun w hw _ => (hws w hw).2
  refine (up_ret p s vw vd ws Cw hCw [⟨d, gp, gn, pl, nw, f⟩] Cd hCd ⟨by simp, fun x hx => ?_⟩ (fun w hw => ⟨⟨_, List.mem_singleton.2 rfl, (hws w hw).1.symm⟩, fun x hx _ => ?_⟩) v st O hO As hOA w0 H).mono fun u w' hT => ?_
  · rw [List.mem_singleton.1 hx]; exact ⟨hnw, hn⟩
  · rw [List.mem_singleton.1 hx]; exact (hws w hw).2
  · rw [upW_map] at hT
    have hT : Trs w0 w' ([(p, pcl s vw vd)] :: Cw :: Cd :: [(d, dcl p gp gn pl.length f)] :: [(gp, cel (byt pl) 5)] :: [(gn, cel (byt nw) 5)] :: As) ([(p, pcl ⟨-1, false, s.wr⟩ (.slice none 0 0) vd)] :: Cd :: [(d, dcl p gp gn (upS d ws st pl).length f)] :: [(gp, cel (byt (upS d ws st pl)) 5)] :: [(gn, cel (byt (upS d ws st pl)) 5)] :: As) := hT
    rw [hu] at hT
    exact hT

theorem fail_ret (d p gp gn n : Nat) (f : Bool) (s : Pw) (vw vd : Value) (pl nw : List UInt8) (hpl : pl.length = n) (hnw : nw.length = n) (hn : n ≤ 1048576) (ws : List Wt) (Cw : Chunk) (hCw : Buf Cw 65 130 vw ws.length (wl ws)) (As : List Chunk) (hB : ∀ x ∈ ws, x.d = d ∨ Bks As x.d) (w0 : World)
    (H : Hp w0 ([(p, pcl s vw vd)] :: Cw :: [(d, dcl p gp gn n f)] :: [(gp, cel (byt pl) 5)] :: [(gn, cel (byt nw) 5)] :: As)) :
    Ret Try.prog 19 #[ptr d] w0 fun _ w' => ∃ vw' Cw', Buf Cw' 65 130 vw' (outW d ws).length (wl (outW d ws)) ∧
        Trs w0 w' ([(p, pcl s vw vd)] :: Cw :: [(d, dcl p gp gn n f)] :: [(gp, cel (byt pl) 5)] :: [(gn, cel (byt nw) 5)] :: As) ([(p, pcl s vw' vd)] :: Cw' :: [(d, dcl p gp gn n true)] :: [(gp, cel (byt pl) 5)] :: [(gn, cel (byt pl) 5)] :: As) := by
  have S := St.begin H
  refine enter1 20 Try.func19 rfl rfl (by decide) ?_; intro a E
  refine wp_seq_k ?_; intro K hK
  refine region_list ?_
  refine list_pure E rfl rfl (by decide) (rn_move E rfl rfl) ?_; clear E a; intro a E
  refine list_pure E rfl rfl (by decide) (rn_nilCheck E rfl rfl) ?_; clear E a; intro a E
  refine list_pure E rfl rfl (by decide) (by first | exact rn_fieldAddr0 (q := 0) E rfl rfl rfl | exact rn_fieldAddr (q := 0) E rfl rfl rfl) ?_; clear E a; intro a E
  refine list_pure E rfl rfl (by decide) (by first | exact rn_load E rfl rfl rfl (S.get (by repeat (first | exact pk1 | apply pick_tail))) rfl | exact rn_loadc E rfl rfl rfl (by assumption)) ?_; clear E a; intro a E
  refine list_pure E rfl rfl (by decide) (rn_move E rfl rfl) ?_; clear E a; intro a E
  refine list_call E rfl rfl (by decide) rfl Try.func31 rfl (by kernel_rfl) rfl (drop_ret p s vw vd ws Cw hCw d ([(d, dcl p gp gn n f)] :: [(gp, cel (byt pl) 5)] :: [(gn, cel (byt nw) 5)] :: As) (fun x hx => (hB x hx).imp_right fun h => ⟨h.sub (fun _ h => by repeat (first | exact h | apply List.Mem.tail)), ⟨_, List.Mem.head _, _, _, List.Mem.head _⟩⟩) _ S.hp) ?_
  rintro v7 w ⟨vw', Cw', hCw', hT⟩; clear E a; intro a E
  have S := S.all hT
  have hR := rd_cells (g := gp) (T := 5) (xs := byt pl) (s := 1) (m := n) (by rw [byt_length]; omega) (byt_one pl) (by omega) n
  refine wpList_nil ?_
  refine then_k hK ?_; clear hK; clear K
  refine wp_seq_k ?_; intro K hK
  refine region_mix0 S (.ofL [(0, 0), (1, 0), (2, 0), (3, 0), (4, 0), (5, 0), (6, 0), (7, 0), (8, 3)]) (by kernel_rfl) (by kernel_rfl) ?_
  clear S; intro w S
  refine mix_pure E rfl rfl rfl (by decide) (fun w h => rn_move E rfl rfl) ?_; clear E a; intro a E
  refine mix_pure E rfl rfl rfl (by decide) (fun w h => rn_nilCheck E rfl rfl) ?_; clear E a; intro a E
  refine mix_pure E rfl rfl rfl (by decide) (fun w h => by first | exact rn_fieldAddr0 (q := 2) E rfl rfl rfl | exact rn_fieldAddr (q := 2) E rfl rfl rfl) ?_; clear E a; intro a E
  refine mix_pure E rfl rfl rfl (by decide) (fun w h => by first | exact rn_load E rfl rfl rfl (h.one (by repeat (first | exact mm1 | assumption | apply List.Mem.tail))) rfl | exact rn_loadc E rfl rfl rfl (by assumption)) ?_; clear E a; intro a E
  refine mix_pure E rfl rfl rfl (by decide) (fun w h => rn_move E rfl rfl) ?_; clear E a; intro a E
  refine mix_pure E rfl rfl rfl (by decide) (fun w h => rn_nilCheck E rfl rfl) ?_; clear E a; intro a E
  refine mix_pure E rfl rfl rfl (by decide) (fun w h => by first | exact rn_fieldAddr0 (q := 1) E rfl rfl rfl | exact rn_fieldAddr (q := 1) E rfl rfl rfl) ?_; clear E a; intro a E
  refine mix_pure E rfl rfl rfl (by decide) (fun w h => by first | exact rn_load E rfl rfl rfl (h.one (by repeat (first | exact mm1 | assumption | apply List.Mem.tail))) rfl | exact rn_loadc E rfl rfl rfl (by assumption)) ?_; clear E a; intro a E
  refine mix_last rfl rfl (wp_copy E S rfl rfl (by decide) rfl rfl (by repeat (first | exact pk1 | apply pick_tail)) (hR.copySrc (S.stab.at (by repeat (first | exact mm1 | assumption | apply List.Mem.tail))) rfl) rfl rfl (by rw [byt_length]; omega) ?_); clear E S a; intro a w E S
  rw [copy_whole (by rw [byt_length]; exact hnw) (by rw [byt_length]; exact hpl)] at S
  refine mix_nil ?_
  refine then_k hK ?_; clear hK; clear K
  refine region_list ?_
  refine list_pure E rfl rfl (by decide) (rn_move E rfl rfl) ?_; clear E a; intro a E
  refine list_pure E rfl rfl (by decide) (rn_nilCheck E rfl rfl) ?_; clear E a; intro a E
  refine list_pure E rfl rfl (by decide) (by first | exact rn_fieldAddr0 (q := 3) E rfl rfl rfl | exact rn_fieldAddr (q := 3) E rfl rfl rfl) ?_; clear E a; intro a E
  refine list_wp rfl (wp_store1 E S rfl rfl rfl rfl rfl rfl (by repeat (first | exact pk1 | apply pick_tail)) (by first | exact Nat.le_of_ble_eq_true rfl | (simp; done) | (simp; omega)) ?_); clear E S a; intro a w E S; try dsimp only [List.set] at S
  refine wpList_nil ?_
  refine end0 E rfl ?_
  exact ⟨_, rfl, vw', Cw', hCw', (S.front5 (A := [(p, _)]) (by repeat (first | exact pk1 | apply pick_tail)) (B := Cw') (by repeat (first | exact pk1 | apply pick_tail)) (C := [(d, _)]) (by repeat (first | exact pk1 | apply pick_tail)) (D := [(gp, _)]) (by repeat (first | exact pk1 | apply pick_tail)) (F := [(gn, _)]) (by repeat (first | exact pk1 | apply pick_tail))).tr⟩
end Go.Proofs.Ytpppaohhnlgfoaa
