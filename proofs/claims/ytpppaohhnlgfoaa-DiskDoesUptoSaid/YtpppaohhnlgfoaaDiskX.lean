/-
  Disks: reading and flushing, in one form each; DiskCut.
-/
import Derived.Test.YtpppaohhnlgfoaaDiskW
import Derived.Test.YtpppaohhnlgfoaaDiskZ
namespace Go.Sl
theorem Trs.nilR {w w' : World} {As Bs : List Chunk} (h : Trs w w' As Bs) : Trs w w' As ([] :: Bs) := by unfold Trs at *; simpa using h
def rdMay (n : Nat) (at_ many : Int) : Prop := 0 ≤ at_ ∧ 0 ≤ many ∧ at_ ≤ (n / 128 : Nat) ∧ many ≤ (n / 128 : Nat) - at_
instance (n : Nat) (at_ many : Int) : Decidable (rdMay n at_ many) := by unfold rdMay; infer_instance
/-- What a read answers. -/
def rdS (s : Pw) (f : Bool) (nw : List UInt8) (at_ many : Int) : Int × List UInt8 :=
  if s.off then (5, []) else if f then (30, []) else if ¬ rdMay nw.length at_ many then (1, []) else (0, (nw.drop (at_.toNat * 128)).take (many.toNat * 128))
/-- What a flush answers, what then waits, what is on the platter. -/
def flE (s : Pw) (f : Bool) : Int := if s.off then 5 else if f then 30 else 0
def flW (d : Nat) (s : Pw) (f : Bool) (ws : List Wt) : List Wt := if flE s f = 0 then outW d ws else ws
def flP (s : Pw) (f : Bool) (pl nw : List UInt8) : List UInt8 := if flE s f = 0 then nw else pl
theorem flW_mem {d : Nat} {s : Pw} {f : Bool} {ws : List Wt} {x : Wt} (h : x ∈ flW d s f ws) : x ∈ ws := by
  unfold flW at h
  split at h
  · exact (List.mem_filter.1 h).1
  · exact h
theorem rdS_all {s : Pw} (hs : s.off = false) {nw : List UInt8} {k : Nat} (hk : nw.length = k * 128) : rdS s false nw 0 k = (0, nw) := by
  unfold rdS
  have hm : rdMay nw.length 0 k := by
    have h : nw.length / 128 = k := by omega
    unfold rdMay; rw [h]; omega
  rw [if_neg (by simp [hs]), if_neg (by simp), if_neg (fun q => q hm)]
  simp only [Int.toNat_zero, Nat.zero_mul, List.drop_zero, Int.toNat_natCast]
  rw [List.take_of_length_le (by omega)]
/-- A cut and a write behind it. -/
theorem cut_cases (d : Nat) (after at_ : Int) (b z : List UInt8) {r : Pw × List UInt8 × List Wt × Int} (hr : r = wrS d 1024 at_ b ⟨max (-1) after, false, 0⟩ false z []) :
    (¬ wrMay 1024 at_ b ∧ r.2.2.2 = 1 ∧ r.1.off = false ∧ r.1.wr = 0) ∨
    (wrMay 1024 at_ b ∧ (after < 0 ∨ ((b.length / 128 : Nat) : Int) ≤ after) ∧ r.2.2.2 = 0 ∧ r.1.off = false ∧ r.1.wr = b.length / 128) ∨
    (wrMay 1024 at_ b ∧ 0 ≤ after ∧ after < ((b.length / 128 : Nat) : Int) ∧ r.2.2.2 = 5 ∧ r.1.off = true ∧ (r.1.wr : Int) = after ∧ (r.2.2.1.length : Int) = after) := by
  subst hr
  by_cases hm : wrMay 1024 at_ b
  · have he : wrS d 1024 at_ b ⟨max (-1) after, false, 0⟩ false z [] = wrN d at_.toNat b (b.length / 128) 0 ⟨max (-1) after, false, 0⟩ z [] := by
      unfold wrS; rw [if_neg (by simp), if_neg (by simp), if_neg (fun q => q hm)]
    rw [he]
    by_cases ha : after < 0 ∨ ((b.length / 128 : Nat) : Int) ≤ after
    · obtain ⟨h1, h2, h3, h4, h5⟩ := wrN_big (d := d) (a := at_.toNat) (b := b) (b.length / 128) 0 ⟨max (-1) after, false, 0⟩ z [] (by simp only; omega)
      exact .inr (.inl ⟨hm, ha, h1, h2, by rw [h3]; simp⟩)
    · obtain ⟨h1, h2, h3, h4⟩ := wrN_cut (d := d) (a := at_.toNat) (b := b) (b.length / 128) 0 ⟨max (-1) after, false, 0⟩ z [] (by simp only; omega) (by simp only; omega)
      simp only [List.length_nil] at h3 h4
      exact .inr (.inr ⟨hm, by omega, by omega, h1, h2, by omega, by omega⟩)
  · refine .inl ⟨hm, ?_⟩
    unfold wrS; rw [if_neg (by simp), if_neg (by simp), if_pos hm]; exact ⟨rfl, rfl, rfl⟩
end Go.Sl
namespace Go.Proofs.Ytpppaohhnlgfoaa
open Go.Sl
set_option maxRecDepth 10000

theorem dread_u (d p gp gn : Nat) (f : Bool) (s : Pw) (vw vd : Value) (nw : List UInt8) (hn : nw.length ≤ 1048576) (at_ many : Int) (ha : -9223372036854775808 ≤ at_ ∧ at_ ≤ 9223372036854775807) (w0 : World)
    (H : Hp w0 [[(p, pcl s vw vd)], [(d, dcl p gp gn nw.length f)], [(gn, cel (byt nw) 5)]]) :
    Ret Try.prog 12 #[ptr d, .int .i64 at_, .int .i64 many] w0 fun u w' => ∃ v C, u = .tuple #[v, .int .i64 (rdS s f nw at_ many).1] ∧ Buf C 5 1 v (rdS s f nw at_ many).2.length (byt (rdS s f nw at_ many).2) ∧
        Trs w0 w' [[(p, pcl s vw vd)], [(d, dcl p gp gn nw.length f)], [(gn, cel (byt nw) 5)]] [C, [(p, pcl s vw vd)], [(d, dcl p gp gn nw.length f)], [(gn, cel (byt nw) 5)]] := by
  refine (dread_ret d p gp gn f s vw vd nw hn at_ many ha w0 H).mono fun u w' h => ?_
  rcases h with ⟨h1, rfl, hT⟩ | ⟨h1, h2, rfl, hT⟩ | ⟨h1, h2, h3, rfl, hT⟩ | ⟨h1, h2, h3, g, rfl, hT⟩
  · have he : rdS s f nw at_ many = (5, []) := by unfold rdS; rw [if_pos h1]
    rw [he]; exact ⟨_, [], rfl, Buf.nil _ _, hT.nilR⟩
  · have he : rdS s f nw at_ many = (30, []) := by unfold rdS; rw [if_neg (by simp [h1]), if_pos h2]
    rw [he]; exact ⟨_, [], rfl, Buf.nil _ _, hT.nilR⟩
  · have he : rdS s f nw at_ many = (1, []) := by unfold rdS; rw [if_neg (by simp [h1]), if_neg (by simp [h2])]; exact if_pos h3
    rw [he]; exact ⟨_, [], rfl, Buf.nil _ _, hT.nilR⟩
  · have he : rdS s f nw at_ many = (0, (nw.drop (at_.toNat * 128)).take (many.toNat * 128)) := by unfold rdS; rw [if_neg (by simp [h1]), if_neg (by simp [h2])]; exact if_neg (fun q => q h3)
    rw [he]
    obtain ⟨h3a, h3b, h3c, h3d⟩ := h3
    have hl : ((nw.drop (at_.toNat * 128)).take (many.toNat * 128)).length = many.toNat * 128 := by rw [List.length_take, List.length_drop]; omega
    refine ⟨_, _, rfl, ?_, hT⟩
    have hb := buf_mk (g := g) (c := many.toNat * 128) (s := 1) (m := many.toNat * 128) (xs := byt ((nw.drop (at_.toNat * 128)).take (many.toNat * 128))) (r := []) (T := 5) (by rw [byt_length, hl, Nat.mul_one]) (byt_one _) (Nat.le_refl _) (by simp only [maxLen]; omega) (by rw [byt_length, hl, List.length_nil]; omega)
    rw [List.append_nil] at hb
    rw [hl]; exact hb

theorem flush_u (d p gp gn n : Nat) (f : Bool) (s : Pw) (vw vd : Value) (pl nw : List UInt8) (hpl : pl.length = n) (hnw : nw.length = n) (hn : n ≤ 1048576) (ws : List Wt) (Cw : Chunk) (hCw : Buf Cw 65 130 vw ws.length (wl ws)) (As : List Chunk) (hB : ∀ x ∈ ws, x.d = d ∨ Bks As x.d) (w0 : World)
    (H : Hp w0 ([(p, pcl s vw vd)] :: Cw :: [(d, dcl p gp gn n f)] :: [(gp, cel (byt pl) 5)] :: [(gn, cel (byt nw) 5)] :: As)) :
    Ret Try.prog 11 #[ptr d] w0 fun u w' => u = .int .i64 (flE s f) ∧ ∃ vw' Cw', Buf Cw' 65 130 vw' (flW d s f ws).length (wl (flW d s f ws)) ∧
        Trs w0 w' ([(p, pcl s vw vd)] :: Cw :: [(d, dcl p gp gn n f)] :: [(gp, cel (byt pl) 5)] :: [(gn, cel (byt nw) 5)] :: As) ([(p, pcl s vw' vd)] :: Cw' :: [(d, dcl p gp gn n f)] :: [(gp, cel (byt (flP s f pl nw)) 5)] :: [(gn, cel (byt nw) 5)] :: As) := by
  refine (flush_ret d p gp gn n f s vw vd pl nw hpl hnw hn ws Cw hCw As hB w0 H).mono fun u w' h => ?_
  rcases h with ⟨h1, rfl, hT⟩ | ⟨h1, h2, rfl, vw', Cw', hCw', hT⟩
  · have he : flE s f = if s.off then 5 else 30 := by
      unfold flE; cases hs : s.off
      · rw [hs] at h1; have hf : f = true := by simpa using h1
        simp [hf]
      · simp
    have hne : flE s f ≠ 0 := by rw [he]; split <;> decide
    have hw : flW d s f ws = ws := if_neg hne
    have hp : flP s f pl nw = pl := if_neg hne
    rw [hw, hp]
    exact ⟨by rw [he], vw, Cw, hCw, hT⟩
  · have he : flE s f = 0 := by unfold flE; rw [if_neg (by simp [h1]), if_neg (by simp [h2])]
    have hw : flW d s f ws = outW d ws := if_pos he
    have hp : flP s f pl nw = nw := if_pos he
    rw [hw, hp, he]
    exact ⟨rfl, vw', Cw', hCw', hT⟩

theorem cut_walk (O : Chunk) (after : Int) (haf : -9223372036854775808 ≤ after ∧ after ≤ 9223372036854775807) (at_ : Int) (ha : -9223372036854775808 ≤ at_ ∧ at_ ≤ 9223372036854775807) (v : Value) (b : List UInt8) (hO : Rd O 1 v b.length (byt b)) (hbl : b.length ≤ 140737488351232) (hcap : ∃ ad c, v = .slice ad b.length c ∧ b.length ≤ c) (w0 : World) (H : Hp w0 [O]) :
    Ret Try.prog 4 #[.int .i64 after, .int .i64 at_, v] w0 fun u w' => u = .bool true ∧ Trs w0 w' [O] [O] := by
  have S := St.begin H
  obtain ⟨adb, cb, rfl, hcb⟩ := hcap
  obtain ⟨z, hz⟩ : ∃ z, z = List.replicate (8 * 128) (0 : UInt8) := ⟨_, rfl⟩
  have hzl : z.length = 1024 := by rw [hz]; simp
  refine enter3 157 Try.func4 rfl rfl (by decide) ?_; intro a E
  refine wp_seq_k ?_; intro K hK
  refine region_list ?_
  refine list_pure E rfl rfl (by decide) (rn_assign E rfl rfl) ?_; clear E a; intro a E
  refine wpList_nil ?_
  refine then_k hK ?_; clear hK; clear K
  refine wp_seq_k ?_; intro K hK
  refine region_list ?_
  refine list_call E rfl rfl (by decide) rfl Try.func7 rfl (by kernel_rfl) rfl (awake_ret _) ?_
  rintro v18 w ⟨rfl, hT⟩; clear E a; intro a E
  have S := S.quiet hT
  refine list_pure E rfl rfl (by decide) (rn_assign E rfl rfl) ?_; clear E a; intro a E
  refine wpList_nil ?_
  refine then_k hK ?_; clear hK; clear K
  refine wp_seq_k ?_; intro K hK
  refine region_list ?_
  refine list_call E rfl rfl (by decide) rfl Try.func8 rfl (by kernel_rfl) rfl (newpower_ret _) ?_
  rintro v19 w ⟨p, rfl, hT⟩; clear E a; intro a E
  have S := S.fresh hT; have S := S.addNil
  refine list_pure E rfl rfl (by decide) (rn_assign E rfl rfl) ?_; clear E a; intro a E
  refine wpList_nil ?_
  refine then_k hK ?_; clear hK; clear K
  refine wp_seq_k ?_; intro K hK
  refine region_list ?_
  refine list_pure E rfl rfl (by decide) (rn_move E rfl rfl) ?_; clear E a; intro a E
  have S := S.front2 (A := [(p, _)]) (by repeat (first | exact pk1 | apply pick_tail)) (B := []) (by repeat (first | exact pk1 | apply pick_tail))
  refine list_call E rfl rfl (by decide) rfl Try.func9 rfl (by kernel_rfl) rfl (dnew_ret p ⟨-1, false, 0⟩ _ _ 0 [] [] (Buf.nil _ _) (by omega) 8 (by omega) (by omega) _ (S.hp.sel (sel_cons (by repeat (first | exact pk1 | apply pick_tail)) (sel_cons (by repeat (first | exact pk1 | apply pick_tail)) (sel_nil _))))) ?_
  rintro v22 w ⟨d, gp, gn, vd, Cd, rfl, hCd, hT⟩; clear E a; intro a E
  have S := (S.call (sel_cons (by repeat (first | exact pk1 | apply pick_tail)) (sel_cons (by repeat (first | exact pk1 | apply pick_tail)) (sel_nil _))) hT); rw [← hz] at S
  obtain ⟨add, cd, rfl⟩ := hCd.slice
  have S : St w0 _ _ ([(p, pcl ⟨-1, false, 0⟩ (.slice none 0 0) (.slice add 1 cd))] :: Cd :: [(d, dcl p gp gn 1024 false)] :: [(gp, cel (byt z) 5)] :: [(gn, cel (byt z) 5)] :: [O]) := S
  refine list_pure E rfl rfl (by decide) (rn_move E rfl rfl) ?_; clear E a; intro a E
  refine list_pure E rfl rfl (by decide) (rn_extract E rfl rfl rfl) ?_; clear E a; intro a E
  refine list_pure E rfl rfl (by decide) (rn_extract E rfl rfl rfl) ?_; clear E a; intro a E
  refine list_pure E rfl rfl (by decide) (rn_assign E rfl rfl) ?_; clear E a; intro a E
  refine list_pure E rfl rfl (by decide) (rn_assign E rfl rfl) ?_; clear E a; intro a E
  refine wpList_nil ?_
  refine then_k hK ?_; clear hK; clear K
  refine wp_seq_k ?_; intro K hK
  refine wp_seq_k ?_; intro K hK
  refine region_list ?_
  refine list_pure E rfl rfl (by decide) (rn_move E rfl rfl) ?_; clear E a; intro a E
  refine list_pure E rfl rfl (by decide) (rn_not E rfl rfl) ?_; clear E a; intro a E
  refine list_pure E rfl rfl (by decide) (rn_move E rfl rfl) ?_; clear E a; intro a E
  refine guard_false E (t := 27) rfl (rfl) (fun hb27 => ?_)
  refine list_guard_yes E rfl rfl rfl rfl hb27 rfl (by decide) (rn_move E rfl rfl) ?_; clear E a; intro a E
  refine list_guard_yes E rfl rfl rfl rfl hb27 rfl (by decide) (by first | exact rn_eql E rfl rfl rfl | exact rn_eql_ptr_nil E rfl rfl rfl rfl | exact rn_eql_bool E rfl rfl rfl rfl | exact rn_eql_string E rfl rfl rfl) ?_; clear E a; intro a E
  refine list_pure E rfl rfl (by decide) (rn_pick_no' E rfl rfl hb27 rfl) ?_; clear E a; intro a E
  refine list_pure E rfl rfl (by decide) (rn_move E rfl rfl) ?_; clear E a; intro a E
  refine guard_false E (t := 31) rfl (rfl) (fun hb31 => ?_)
  refine list_guard_yes E rfl rfl rfl rfl hb31 rfl (by decide) (rn_move E rfl rfl) ?_; clear E a; intro a E
  refine list_guard_yes E rfl rfl rfl rfl hb31 rfl (by decide) (by first | exact rn_neq E rfl rfl rfl | exact rn_neq_ptr_nil E rfl rfl rfl rfl | exact rn_neq_bool E rfl rfl rfl rfl | exact rn_neq_string E rfl rfl rfl) ?_; clear E a; intro a E
  refine list_pure E rfl rfl (by decide) (rn_pick_no' E rfl rfl hb31 rfl) ?_; clear E a; intro a E
  refine wpList_nil ?_
  refine then_k hK ?_; clear hK; clear K
  refine if_false' E rfl (rfl) ?_
  refine wp_skip ?_
  refine then_k hK ?_; clear hK; clear K
  refine wp_seq_k ?_; intro K hK
  replace E := E.keep (e' := [(0, _), (1, _), (2, _), (6, _), (8, _), (9, _)]) (keep_cons rfl (keep_cons rfl (keep_cons rfl (keep_cons rfl (keep_cons rfl (keep_cons rfl (keep_nil)))))))
  refine region_list ?_
  refine list_pure E rfl rfl (by decide) (rn_move E rfl rfl) ?_; clear E a; intro a E
  refine list_pure E rfl rfl (by decide) (rn_move E rfl rfl) ?_; clear E a; intro a E
  refine list_call E rfl rfl (by decide) rfl Try.func17 rfl (by kernel_rfl) rfl (cut_ret p ⟨-1, false, 0⟩ _ _ after _ (S.hp.sel (sel_cons (by repeat (first | exact pk1 | apply pick_tail)) (sel_nil _)))) ?_
  rintro v37 w hT; clear E a; intro a E
  have S := (S.call1 (sel_cons (by repeat (first | exact pk1 | apply pick_tail)) (sel_nil _)) hT).addNil
  have S : St w0 _ _ ([] :: [(p, pcl ⟨max (-1) after, false, 0⟩ (.slice none 0 0) (.slice add 1 cd))] :: _) := S
  refine wpList_nil ?_
  refine then_k hK ?_; clear hK; clear K
  refine wp_seq_k ?_; intro K hK
  refine region_list ?_
  refine list_pure E rfl rfl (by decide) (rn_move E rfl rfl) ?_; clear E a; intro a E
  refine list_pure E rfl rfl (by decide) (rn_move E rfl rfl) ?_; clear E a; intro a E
  refine list_pure E rfl rfl (by decide) (rn_move E rfl rfl) ?_; clear E a; intro a E
  have S := S.front4 (A := [(p, _)]) (by repeat (first | exact pk1 | apply pick_tail)) (B := []) (by repeat (first | exact pk1 | apply pick_tail)) (C := [(d, _)]) (by repeat (first | exact pk1 | apply pick_tail)) (D := [(gn, _)]) (by repeat (first | exact pk1 | apply pick_tail))
  refine list_call E rfl rfl (by decide) rfl Try.func10 rfl (by kernel_rfl) rfl (dwrite_ret d p gn gp 1024 false ⟨max (-1) after, false, 0⟩ _ _ z hzl (by omega) [] (by simp) (by simp) (by simp only; omega) [] (Buf.nil _ _) at_ ha _ b O hO ⟨_, _, rfl, hcb⟩ _ (show O ∈ _ from (by repeat (first | exact mm1 | assumption | apply List.Mem.tail))) _ S.hp) ?_
  rintro v41 w ⟨vw1, Cw1, rfl, hCw1, hwl1, hT⟩; clear E a; intro a E
  have S := S.all hT
  obtain ⟨r, hr⟩ : ∃ r, r = wrS d 1024 at_ b ⟨max (-1) after, false, 0⟩ false z [] := ⟨_, rfl⟩
  rw [← hr] at S hCw1 hwl1 E
  have hcs := cut_cases d after at_ b z hr
  have hwf : ∀ w ∈ r.2.2.1, w.d = d ∧ 128 * w.at_ + 128 ≤ 1024 := by rw [hr]; exact wrS_fit (fun w => w.d = d ∧ 128 * w.at_ + 128 ≤ 1024) (fun j b' h => ⟨rfl, h⟩) _ _ _ _ (by simp)
  refine list_pure E rfl rfl (by decide) (rn_assign E rfl rfl) ?_; clear E a; intro a E
  refine wpList_nil ?_
  refine then_k hK ?_; clear hK; clear K
  refine wp_seq_k ?_; intro K hK
  refine region_list ?_
  refine list_pure E rfl rfl (by decide) (rn_move E rfl rfl) ?_; clear E a; intro a E
  have S := S.front5 (A := [(p, _)]) (by repeat (first | exact pk1 | apply pick_tail)) (B := Cw1) (by repeat (first | exact pk1 | apply pick_tail)) (C := [(d, _)]) (by repeat (first | exact pk1 | apply pick_tail)) (D := [(gp, _)]) (by repeat (first | exact pk1 | apply pick_tail)) (F := [(gn, _)]) (by repeat (first | exact pk1 | apply pick_tail))
  refine list_call E rfl rfl (by decide) rfl Try.func11 rfl (by kernel_rfl) rfl (flush_u d p gp gn 1024 false r.1 vw1 _ z r.2.1 hzl hwl1 (by omega) r.2.2.1 Cw1 hCw1 _ (fun x hx => .inl (hwf x hx).1) _ S.hp) ?_
  rintro v43 w ⟨rfl, vw2, Cw2, hCw2, hT⟩; clear E a; intro a E
  have S := S.all hT
  obtain ⟨ws2, hws2⟩ : ∃ ws2, ws2 = flW d r.1 false r.2.2.1 := ⟨_, rfl⟩
  obtain ⟨pl2, hpl2⟩ : ∃ pl2, pl2 = flP r.1 false z r.2.1 := ⟨_, rfl⟩
  rw [← hws2] at hCw2
  rw [← hpl2] at S
  have hpl2l : pl2.length = 1024 := by rw [hpl2, flP]; split; exact hwl1; exact hzl
  have hwf2 : ∀ w ∈ ws2, w.d = d ∧ 128 * w.at_ + 128 ≤ 1024 := fun w hw => hwf w (flW_mem (by rw [← hws2]; exact hw))
  obtain ⟨adw, cw, rfl⟩ := hCw2.slice
  refine list_pure E rfl rfl (by decide) (rn_assign E rfl rfl) ?_; clear E a; intro a E
  refine wpList_nil ?_
  refine then_k hK ?_; clear hK; clear K
  refine wp_seq_k ?_; intro K hK
  refine region_list ?_
  refine list_pure E rfl rfl (by decide) (rn_move E rfl rfl) ?_; clear E a; intro a E
  have S := S.front3 (A := [(p, _)]) (by repeat (first | exact pk1 | apply pick_tail)) (B := [(d, _)]) (by repeat (first | exact pk1 | apply pick_tail)) (C := [(gn, _)]) (by repeat (first | exact pk1 | apply pick_tail))
  have hdd : dcl p gp gn 1024 false = dcl p gp gn r.2.1.length false := by rw [hwl1]
  rw [hdd] at S
  refine list_call E rfl rfl (by decide) rfl Try.func12 rfl (by kernel_rfl) rfl (dread_u d p gp gn false r.1 _ _ r.2.1 (by omega) 0 1 (by omega) _ (S.hp.sel (sel_cons (by repeat (first | exact pk1 | apply pick_tail)) (sel_cons (by repeat (first | exact pk1 | apply pick_tail)) (sel_cons (by repeat (first | exact pk1 | apply pick_tail)) (sel_nil _)))))) ?_
  rintro v46 w ⟨vr, Cr, rfl, hCr, hT⟩; clear E a; intro a E
  have S := (S.call4 (sel_cons (by repeat (first | exact pk1 | apply pick_tail)) (sel_cons (by repeat (first | exact pk1 | apply pick_tail)) (sel_cons (by repeat (first | exact pk1 | apply pick_tail)) (sel_nil _)))) hT).tail; rw [← hdd] at S
  refine list_pure E rfl rfl (by decide) (rn_move E rfl rfl) ?_; clear E a; intro a E
  refine list_pure E rfl rfl (by decide) (rn_extract E rfl rfl rfl) ?_; clear E a; intro a E
  refine list_pure E rfl rfl (by decide) (rn_extract E rfl rfl rfl) ?_; clear E a; intro a E
  refine list_pure E rfl rfl (by decide) (rn_assign E rfl rfl) ?_; clear E a; intro a E
  refine list_pure E rfl rfl (by decide) (rn_assign E rfl rfl) ?_; clear E a; intro a E
  refine wpList_nil ?_
  refine then_k hK ?_; clear hK; clear K
  refine wp_seq_k ?_; intro K hK
  replace E := E.keep (e' := [(0, _), (1, _), (2, _), (6, _), (8, _), (9, _), (11, _), (12, _), (14, _)]) (keep_cons rfl (keep_cons rfl (keep_cons rfl (keep_cons rfl (keep_cons rfl (keep_cons rfl (keep_cons rfl (keep_cons rfl (keep_cons rfl (keep_nil))))))))))
  refine region_list ?_
  refine list_pure E rfl rfl (by decide) (rn_move E rfl rfl) ?_; clear E a; intro a E
  refine list_pure E rfl rfl (by decide) (by first | exact rn_len E rfl rfl rfl | exact rn_len_str E rfl rfl rfl | exact rn_len_string E rfl rfl rfl) ?_; clear E a; intro a E
  refine list_pure E rfl rfl (by decide) (rn_quo E rfl rfl rfl (by decide) (by first | exact wq_lit (y := 128) (by omega) | exact wq_litu (y := 128) (by omega) | exact rfl)) ?_; clear E a; intro a E
  refine list_pure E rfl rfl (by decide) (rn_assign E rfl rfl) ?_; clear E a; intro a E
  refine wpList_nil ?_
  refine then_k hK ?_; clear hK; clear K
  refine wp_seq_k ?_; intro K hK
  refine wp_join (fun (a : Act) (w' : World) => ∃ may : Bool, may = decide (wrMay 1024 at_ b) ∧ St w0 [O] w' ([(p, pcl r.1 (.slice adw ws2.length cw) (.slice add 1 cd))] :: Cw2 :: Cd :: [(d, dcl p gp gn 1024 false)] :: [(gp, cel (byt pl2) 5)] :: [(gn, cel (byt r.2.1) 5)] :: [O]) ∧ Fr a 157 [(0, .int .i64 after), (8, ptr p), (9, ptr d), (11, .int .i64 r.2.2.2), (12, .int .i64 (flE r.1 false)), (14, .int .i64 (rdS r.1 false r.2.1 0 1).1), (15, .int .i64 (b.length / 128 : Nat)), (16, .bool may)]) ?_ ?_
  · skip
    refine region_list ?_
    refine list_pure E rfl rfl (by decide) (rn_move E rfl rfl) ?_; clear E a; intro a E
    refine list_pure E rfl rfl (by decide) (by first | exact rn_len E rfl rfl rfl | exact rn_len_str E rfl rfl rfl | exact rn_len_string E rfl rfl rfl) ?_; clear E a; intro a E
    refine list_pure E rfl rfl (by decide) (rn_rem E rfl rfl rfl (by decide) (by first | exact wr_lit (y := 128) | exact rfl)) ?_; clear E a; intro a E
    refine list_pure E rfl rfl (by decide) (by first | exact rn_eql E rfl rfl rfl | exact rn_eql_ptr_nil E rfl rfl rfl rfl | exact rn_eql_bool E rfl rfl rfl rfl | exact rn_eql_string E rfl rfl rfl) ?_; clear E a; intro a E
    refine list_pure E rfl rfl (by decide) (rn_move E rfl rfl) ?_; clear E a; intro a E
    refine guard_split E (t := 56) rfl (fun hb56 => ?_) (fun hb56 => ?_)
    · have hb56n := hb56; replace hb56n := Nrm.nrm hb56n
      refine list_guard_yes E rfl rfl rfl rfl hb56 rfl (by decide) (rn_move E rfl rfl) ?_; clear E a; intro a E
      refine list_guard_yes E rfl rfl rfl rfl hb56 rfl (by decide) (rn_geq E rfl rfl rfl) ?_; clear E a; intro a E
      refine list_pure E rfl rfl (by decide) (rn_pick_yes' E rfl rfl hb56 rfl) ?_; clear E a; intro a E
      refine list_pure E rfl rfl (by decide) (rn_move E rfl rfl) ?_; clear E a; intro a E
      refine guard_split E (t := 60) rfl (fun hb60 => ?_) (fun hb60 => ?_)
      · have hb60n := hb60; replace hb60n := Nrm.nrm hb60n
        refine list_guard_yes E rfl rfl rfl rfl hb60 rfl (by decide) (rn_move E rfl rfl) ?_; clear E a; intro a E
        refine list_guard_yes E rfl rfl rfl rfl hb60 rfl (by decide) (rn_leq E rfl rfl rfl) ?_; clear E a; intro a E
        refine list_pure E rfl rfl (by decide) (rn_pick_yes' E rfl rfl hb60 rfl) ?_; clear E a; intro a E
        refine list_pure E rfl rfl (by decide) (rn_move E rfl rfl) ?_; clear E a; intro a E
        refine guard_split E (t := 64) rfl (fun hb64 => ?_) (fun hb64 => ?_)
        · have hb64n := hb64; replace hb64n := Nrm.nrm hb64n
          refine list_guard_yes E rfl rfl rfl rfl hb64 rfl (by decide) (rn_move E rfl rfl) ?_; clear E a; intro a E
          refine list_guard_yes E rfl rfl rfl rfl hb64 rfl (by decide) (rn_move E rfl rfl) ?_; clear E a; intro a E
          refine list_guard_yes E rfl rfl rfl rfl hb64 rfl (by decide) (rn_sub E rfl rfl rfl (by first | exact ws1 (by omega) (by omega) | exact w_in (by omega) | exact w_inu (by omega) | exact rfl)) ?_; clear E a; intro a E
          refine list_guard_yes E rfl rfl rfl rfl hb64 rfl (by decide) (rn_leq E rfl rfl rfl) ?_; clear E a; intro a E
          refine list_pure E rfl rfl (by decide) (rn_pick_yes' E rfl rfl hb64 rfl) ?_; clear E a; intro a E
          refine list_pure E rfl rfl (by decide) (rn_assign E rfl rfl) ?_; clear E a; intro a E
          refine wpList_nil ?_
          refine joined_here ?_
          refine ⟨_, ?_, (S.front6 (A := [(p, _)]) (by repeat (first | exact pk1 | apply pick_tail)) (B := Cw2) (by repeat (first | exact pk1 | apply pick_tail)) (C := Cd) (by repeat (first | exact pk1 | apply pick_tail)) (D := [(d, _)]) (by repeat (first | exact pk1 | apply pick_tail)) (F := [(gp, _)]) (by repeat (first | exact pk1 | apply pick_tail)) (G := [(gn, _)]) (by repeat (first | exact pk1 | apply pick_tail))), E.keep (keep_cons rfl (keep_cons rfl (keep_cons rfl (keep_cons rfl (keep_cons rfl (keep_cons rfl (keep_cons rfl (keep_cons rfl keep_nil))))))))⟩
          rw [Bool.eq_iff_iff]; simp only [decide_eq_true_eq, Bool.false_eq_true, false_iff]; unfold wrMay; omega
        · have hb64n := hb64; replace hb64n := Nrm.nrm hb64n
          refine list_guard_no E rfl rfl rfl rfl hb64 rfl (by decide) ?_; clear E a; intro a E
          refine list_guard_no E rfl rfl rfl rfl hb64 rfl (by decide) ?_; clear E a; intro a E
          refine list_guard_no E rfl rfl rfl rfl hb64 rfl (by decide) ?_; clear E a; intro a E
          refine list_guard_no E rfl rfl rfl rfl hb64 rfl (by decide) ?_; clear E a; intro a E
          refine list_pure E rfl rfl (by decide) (rn_pick_no' E rfl rfl hb64 rfl) ?_; clear E a; intro a E
          refine list_pure E rfl rfl (by decide) (rn_assign E rfl rfl) ?_; clear E a; intro a E
          refine wpList_nil ?_
          refine joined_here ?_
          refine ⟨_, ?_, (S.front6 (A := [(p, _)]) (by repeat (first | exact pk1 | apply pick_tail)) (B := Cw2) (by repeat (first | exact pk1 | apply pick_tail)) (C := Cd) (by repeat (first | exact pk1 | apply pick_tail)) (D := [(d, _)]) (by repeat (first | exact pk1 | apply pick_tail)) (F := [(gp, _)]) (by repeat (first | exact pk1 | apply pick_tail)) (G := [(gn, _)]) (by repeat (first | exact pk1 | apply pick_tail))), E.keep (keep_cons rfl (keep_cons rfl (keep_cons rfl (keep_cons rfl (keep_cons rfl (keep_cons rfl (keep_cons rfl (keep_cons rfl keep_nil))))))))⟩
          rw [Bool.eq_iff_iff]; simp only [decide_eq_true_eq, Bool.false_eq_true, false_iff]; unfold wrMay; omega
      · have hb60n := hb60; replace hb60n := Nrm.nrm hb60n
        refine list_guard_no E rfl rfl rfl rfl hb60 rfl (by decide) ?_; clear E a; intro a E
        refine list_guard_no E rfl rfl rfl rfl hb60 rfl (by decide) ?_; clear E a; intro a E
        refine list_pure E rfl rfl (by decide) (rn_pick_no' E rfl rfl hb60 rfl) ?_; clear E a; intro a E
        refine list_pure E rfl rfl (by decide) (rn_move E rfl rfl) ?_; clear E a; intro a E
        refine list_guard_no E rfl rfl rfl rfl rfl rfl (by decide) ?_; clear E a; intro a E
        refine list_guard_no E rfl rfl rfl rfl rfl rfl (by decide) ?_; clear E a; intro a E
        refine list_guard_no E rfl rfl rfl rfl rfl rfl (by decide) ?_; clear E a; intro a E
        refine list_guard_no E rfl rfl rfl rfl rfl rfl (by decide) ?_; clear E a; intro a E
        refine list_pure E rfl rfl (by decide) (rn_pick_no' E rfl rfl rfl rfl) ?_; clear E a; intro a E
        refine list_pure E rfl rfl (by decide) (rn_assign E rfl rfl) ?_; clear E a; intro a E
        refine wpList_nil ?_
        refine joined_here ?_
        refine ⟨_, ?_, (S.front6 (A := [(p, _)]) (by repeat (first | exact pk1 | apply pick_tail)) (B := Cw2) (by repeat (first | exact pk1 | apply pick_tail)) (C := Cd) (by repeat (first | exact pk1 | apply pick_tail)) (D := [(d, _)]) (by repeat (first | exact pk1 | apply pick_tail)) (F := [(gp, _)]) (by repeat (first | exact pk1 | apply pick_tail)) (G := [(gn, _)]) (by repeat (first | exact pk1 | apply pick_tail))), E.keep (keep_cons rfl (keep_cons rfl (keep_cons rfl (keep_cons rfl (keep_cons rfl (keep_cons rfl (keep_cons rfl (keep_cons rfl keep_nil))))))))⟩
        rw [Bool.eq_iff_iff]; simp only [decide_eq_true_eq, Bool.false_eq_true, false_iff]; unfold wrMay; omega
    · have hb56n := hb56; replace hb56n := Nrm.nrm hb56n
      refine list_guard_no E rfl rfl rfl rfl hb56 rfl (by decide) ?_; clear E a; intro a E
      refine list_guard_no E rfl rfl rfl rfl hb56 rfl (by decide) ?_; clear E a; intro a E
      refine list_pure E rfl rfl (by decide) (rn_pick_no' E rfl rfl hb56 rfl) ?_; clear E a; intro a E
      refine list_pure E rfl rfl (by decide) (rn_move E rfl rfl) ?_; clear E a; intro a E
      refine list_guard_no E rfl rfl rfl rfl rfl rfl (by decide) ?_; clear E a; intro a E
      refine list_guard_no E rfl rfl rfl rfl rfl rfl (by decide) ?_; clear E a; intro a E
      refine list_pure E rfl rfl (by decide) (rn_pick_no' E rfl rfl rfl rfl) ?_; clear E a; intro a E
      refine list_pure E rfl rfl (by decide) (rn_move E rfl rfl) ?_; clear E a; intro a E
      refine list_guard_no E rfl rfl rfl rfl rfl rfl (by decide) ?_; clear E a; intro a E
      refine list_guard_no E rfl rfl rfl rfl rfl rfl (by decide) ?_; clear E a; intro a E
      refine list_guard_no E rfl rfl rfl rfl rfl rfl (by decide) ?_; clear E a; intro a E
      refine list_guard_no E rfl rfl rfl rfl rfl rfl (by decide) ?_; clear E a; intro a E
      refine list_pure E rfl rfl (by decide) (rn_pick_no' E rfl rfl rfl rfl) ?_; clear E a; intro a E
      refine list_pure E rfl rfl (by decide) (rn_assign E rfl rfl) ?_; clear E a; intro a E
      refine wpList_nil ?_
      refine joined_here ?_
      refine ⟨_, ?_, (S.front6 (A := [(p, _)]) (by repeat (first | exact pk1 | apply pick_tail)) (B := Cw2) (by repeat (first | exact pk1 | apply pick_tail)) (C := Cd) (by repeat (first | exact pk1 | apply pick_tail)) (D := [(d, _)]) (by repeat (first | exact pk1 | apply pick_tail)) (F := [(gp, _)]) (by repeat (first | exact pk1 | apply pick_tail)) (G := [(gn, _)]) (by repeat (first | exact pk1 | apply pick_tail))), E.keep (keep_cons rfl (keep_cons rfl (keep_cons rfl (keep_cons rfl (keep_cons rfl (keep_cons rfl (keep_cons rfl (keep_cons rfl keep_nil))))))))⟩
      rw [Bool.eq_iff_iff]; simp only [decide_eq_true_eq, Bool.false_eq_true, false_iff]; unfold wrMay; omega
  · clear E S a; intro a w J; obtain ⟨may, hmay, S, E⟩ := J
    refine then_k hK ?_; clear hK; clear K
    refine wp_seq_k ?_; intro K hK
    refine wp_seq_k ?_; intro K hK
    refine region_list ?_
    refine list_pure E rfl rfl (by decide) (rn_move E rfl rfl) ?_; clear E a; intro a E
    refine list_pure E rfl rfl (by decide) (rn_not E rfl rfl) ?_; clear E a; intro a E
    refine wpList_nil ?_
    refine then_k hK ?_; clear hK; clear K
    refine if_bool E rfl (fun hb => ?_) (fun hb => ?_)
    · replace hb := Nrm.nrm hb
      have hno : ¬ wrMay 1024 at_ b := (by rw [hmay] at hb; simpa using hb); obtain ⟨-, h1, h2, h3⟩ := hcs.resolve_right (fun q => q.elim (fun q => hno q.1) (fun q => hno q.1))
      refine wp_seq_k ?_; intro K hK
      refine region_list ?_
      refine list_pure E rfl rfl (by decide) (rn_move E rfl rfl) ?_; clear E a; intro a E
      refine list_pure E rfl rfl (by decide) (by first | exact rn_eql E rfl rfl rfl | exact rn_eql_ptr_nil E rfl rfl rfl rfl | exact rn_eql_bool E rfl rfl rfl rfl | exact rn_eql_string E rfl rfl rfl) ?_; clear E a; intro a E
      refine list_pure E rfl rfl (by decide) (rn_move E rfl rfl) ?_; clear E a; intro a E
      refine guard_true E (t := 74) rfl ((by simp [h1])) (fun hb74 => ?_)
      refine list_guard_yes E rfl rfl rfl rfl hb74 rfl (by decide) (rn_move E rfl rfl) ?_; clear E a; intro a E
      refine list_guard_yes E rfl rfl rfl rfl hb74 rfl (by decide) (by first | exact rn_eql E rfl rfl rfl | exact rn_eql_ptr_nil E rfl rfl rfl rfl | exact rn_eql_bool E rfl rfl rfl rfl | exact rn_eql_string E rfl rfl rfl) ?_; clear E a; intro a E
      refine list_pure E rfl rfl (by decide) (rn_pick_yes' E rfl rfl hb74 rfl) ?_; clear E a; intro a E
      refine list_pure E rfl rfl (by decide) (rn_move E rfl rfl) ?_; clear E a; intro a E
      refine guard_true E (t := 78) rfl ((by simp [flE, h2])) (fun hb78 => ?_)
      refine list_guard_yes E rfl rfl rfl rfl hb78 rfl (by decide) (rn_move E rfl rfl) ?_; clear E a; intro a E
      refine list_guard_yes E rfl rfl rfl rfl hb78 rfl (by decide) (by first | exact rn_eql E rfl rfl rfl | exact rn_eql_ptr_nil E rfl rfl rfl rfl | exact rn_eql_bool E rfl rfl rfl rfl | exact rn_eql_string E rfl rfl rfl) ?_; clear E a; intro a E
      refine list_pure E rfl rfl (by decide) (rn_pick_yes' E rfl rfl hb78 rfl) ?_; clear E a; intro a E
      refine list_pure E rfl rfl (by decide) (rn_move E rfl rfl) ?_; clear E a; intro a E
      refine guard_true E (t := 82) rfl ((by simp [rdS, h2, rdMay, hwl1])) (fun hb82 => ?_)
      refine list_guard_yes E rfl rfl rfl rfl hb82 rfl (by decide) (rn_move E rfl rfl) ?_; clear E a; intro a E
      refine list_guard_wp E rfl rfl rfl rfl hb82 ?_; refine wp_call' E rfl (by decide) rfl Try.func15 rfl (by kernel_rfl) rfl (on_ret p r.1 _ _ _ (S.hp.sel (sel_cons (by repeat (first | exact pk1 | apply pick_tail)) (sel_nil _)))) ?_
      rintro v84 w ⟨rfl, hT⟩; clear E a; intro a E
      have S := S.call1 (sel_cons (by repeat (first | exact pk1 | apply pick_tail)) (sel_nil _)) hT
      refine list_pure E rfl rfl (by decide) (rn_pick_yes' E rfl rfl hb82 rfl) ?_; clear E a; intro a E
      refine list_pure E rfl rfl (by decide) (rn_move E rfl rfl) ?_; clear E a; intro a E
      refine guard_true E (t := 86) rfl ((by simp [h2])) (fun hb86 => ?_)
      refine list_guard_yes E rfl rfl rfl rfl hb86 rfl (by decide) (rn_move E rfl rfl) ?_; clear E a; intro a E
      refine list_guard_wp E rfl rfl rfl rfl hb86 ?_; refine wp_call' E rfl (by decide) rfl Try.func18 rfl (by kernel_rfl) rfl (writes_ret p r.1 _ _ _ (S.hp.sel (sel_cons (by repeat (first | exact pk1 | apply pick_tail)) (sel_nil _)))) ?_
      rintro v88 w ⟨rfl, hT⟩; clear E a; intro a E
      have S := S.call1 (sel_cons (by repeat (first | exact pk1 | apply pick_tail)) (sel_nil _)) hT
      refine list_guard_yes E rfl rfl rfl rfl hb86 rfl (by decide) (by first | exact rn_eql E rfl rfl rfl | exact rn_eql_ptr_nil E rfl rfl rfl rfl | exact rn_eql_bool E rfl rfl rfl rfl | exact rn_eql_string E rfl rfl rfl) ?_; clear E a; intro a E
      refine list_pure E rfl rfl (by decide) (rn_pick_yes' E rfl rfl hb86 rfl) ?_; clear E a; intro a E
      refine list_pure E rfl rfl (by decide) (rn_assign E rfl rfl) ?_; clear E a; intro a E
      refine wpList_nil ?_
      refine then_k hK ?_; clear hK; clear K
      refine wp_ret ?_
      refine then_ret ?_; clear hK; clear K
      refine ret1 E rfl rfl ?_
      exact ⟨_, rfl, by simp [h3], (S.only (Bs := [O]) (sel_cons (by repeat (first | exact pk1 | apply pick_tail)) (sel_nil _))).tr⟩
    · replace hb := Nrm.nrm hb
      have hyes : wrMay 1024 at_ b := (by rw [hmay] at hb; simpa using hb); replace hcs := hcs.resolve_left (fun q => q.1 hyes)
      refine wp_skip ?_
      refine then_k hK ?_; clear hK; clear K
      refine wp_seq_k ?_; intro K hK
      refine wp_seq_k ?_; intro K hK
      refine region_list ?_
      refine list_pure E rfl rfl (by decide) (rn_move E rfl rfl) ?_; clear E a; intro a E
      refine list_pure E rfl rfl (by decide) (rn_lss E rfl rfl rfl) ?_; clear E a; intro a E
      refine list_pure E rfl rfl (by decide) (rn_move E rfl rfl) ?_; clear E a; intro a E
      refine guard_split E (t := 93) rfl (fun hb93 => ?_) (fun hb93 => ?_)
      · have hb93n := hb93; replace hb93n := Nrm.nrm hb93n
        obtain ⟨-, -, h1, h2, h3⟩ := hcs.resolve_right (fun q => by omega)
        refine list_guard_no E rfl rfl rfl rfl hb93 rfl (by decide) ?_; clear E a; intro a E
        refine list_guard_no E rfl rfl rfl rfl hb93 rfl (by decide) ?_; clear E a; intro a E
        refine list_guard_no E rfl rfl rfl rfl hb93 rfl (by decide) ?_; clear E a; intro a E
        refine list_pure E rfl rfl (by decide) (rn_pick_yes' E rfl rfl hb93 rfl) ?_; clear E a; intro a E
        refine wpList_nil ?_
        refine then_k hK ?_; clear hK; clear K
        refine if_true' E rfl rfl ?_
        refine wp_seq_k ?_; intro K hK
        refine region_list ?_
        refine list_pure E rfl rfl (by decide) (rn_move E rfl rfl) ?_; clear E a; intro a E
        refine list_pure E rfl rfl (by decide) (by first | exact rn_eql E rfl rfl rfl | exact rn_eql_ptr_nil E rfl rfl rfl rfl | exact rn_eql_bool E rfl rfl rfl rfl | exact rn_eql_string E rfl rfl rfl) ?_; clear E a; intro a E
        refine list_pure E rfl rfl (by decide) (rn_move E rfl rfl) ?_; clear E a; intro a E
        refine guard_true E (t := 100) rfl ((by simp [h1])) (fun hb100 => ?_)
        refine list_guard_yes E rfl rfl rfl rfl hb100 rfl (by decide) (rn_move E rfl rfl) ?_; clear E a; intro a E
        refine list_guard_yes E rfl rfl rfl rfl hb100 rfl (by decide) (by first | exact rn_eql E rfl rfl rfl | exact rn_eql_ptr_nil E rfl rfl rfl rfl | exact rn_eql_bool E rfl rfl rfl rfl | exact rn_eql_string E rfl rfl rfl) ?_; clear E a; intro a E
        refine list_pure E rfl rfl (by decide) (rn_pick_yes' E rfl rfl hb100 rfl) ?_; clear E a; intro a E
        refine list_pure E rfl rfl (by decide) (rn_move E rfl rfl) ?_; clear E a; intro a E
        refine guard_true E (t := 104) rfl ((by simp [flE, h2])) (fun hb104 => ?_)
        refine list_guard_yes E rfl rfl rfl rfl hb104 rfl (by decide) (rn_move E rfl rfl) ?_; clear E a; intro a E
        refine list_guard_yes E rfl rfl rfl rfl hb104 rfl (by decide) (by first | exact rn_eql E rfl rfl rfl | exact rn_eql_ptr_nil E rfl rfl rfl rfl | exact rn_eql_bool E rfl rfl rfl rfl | exact rn_eql_string E rfl rfl rfl) ?_; clear E a; intro a E
        refine list_pure E rfl rfl (by decide) (rn_pick_yes' E rfl rfl hb104 rfl) ?_; clear E a; intro a E
        refine list_pure E rfl rfl (by decide) (rn_move E rfl rfl) ?_; clear E a; intro a E
        refine guard_true E (t := 108) rfl ((by simp [rdS, h2, rdMay, hwl1])) (fun hb108 => ?_)
        refine list_guard_yes E rfl rfl rfl rfl hb108 rfl (by decide) (rn_move E rfl rfl) ?_; clear E a; intro a E
        refine list_guard_wp E rfl rfl rfl rfl hb108 ?_; refine wp_call' E rfl (by decide) rfl Try.func15 rfl (by kernel_rfl) rfl (on_ret p r.1 _ _ _ (S.hp.sel (sel_cons (by repeat (first | exact pk1 | apply pick_tail)) (sel_nil _)))) ?_
        rintro v110 w ⟨rfl, hT⟩; clear E a; intro a E
        have S := S.call1 (sel_cons (by repeat (first | exact pk1 | apply pick_tail)) (sel_nil _)) hT
        refine list_pure E rfl rfl (by decide) (rn_pick_yes' E rfl rfl hb108 rfl) ?_; clear E a; intro a E
        refine list_pure E rfl rfl (by decide) (rn_move E rfl rfl) ?_; clear E a; intro a E
        refine guard_true E (t := 112) rfl ((by simp [h2])) (fun hb112 => ?_)
        refine list_guard_yes E rfl rfl rfl rfl hb112 rfl (by decide) (rn_move E rfl rfl) ?_; clear E a; intro a E
        refine list_guard_wp E rfl rfl rfl rfl hb112 ?_; refine wp_call' E rfl (by decide) rfl Try.func18 rfl (by kernel_rfl) rfl (writes_ret p r.1 _ _ _ (S.hp.sel (sel_cons (by repeat (first | exact pk1 | apply pick_tail)) (sel_nil _)))) ?_
        rintro v114 w ⟨rfl, hT⟩; clear E a; intro a E
        have S := S.call1 (sel_cons (by repeat (first | exact pk1 | apply pick_tail)) (sel_nil _)) hT
        refine list_guard_yes E rfl rfl rfl rfl hb112 rfl (by decide) (rn_move E rfl rfl) ?_; clear E a; intro a E
        refine list_guard_yes E rfl rfl rfl rfl hb112 rfl (by decide) (by first | exact rn_eql E rfl rfl rfl | exact rn_eql_ptr_nil E rfl rfl rfl rfl | exact rn_eql_bool E rfl rfl rfl rfl | exact rn_eql_string E rfl rfl rfl) ?_; clear E a; intro a E
        refine list_pure E rfl rfl (by decide) (rn_pick_yes' E rfl rfl hb112 rfl) ?_; clear E a; intro a E
        refine list_pure E rfl rfl (by decide) (rn_assign E rfl rfl) ?_; clear E a; intro a E
        refine wpList_nil ?_
        refine then_k hK ?_; clear hK; clear K
        refine wp_ret ?_
        refine then_ret ?_; clear hK; clear K
        refine ret1 E rfl rfl ?_
        exact ⟨_, rfl, by simp [h3], (S.only (Bs := [O]) (sel_cons (by repeat (first | exact pk1 | apply pick_tail)) (sel_nil _))).tr⟩
      · have hb93n := hb93; replace hb93n := Nrm.nrm hb93n
        refine list_guard_yes E rfl rfl rfl rfl hb93 rfl (by decide) (rn_move E rfl rfl) ?_; clear E a; intro a E
        refine list_guard_yes E rfl rfl rfl rfl hb93 rfl (by decide) (rn_move E rfl rfl) ?_; clear E a; intro a E
        refine list_guard_yes E rfl rfl rfl rfl hb93 rfl (by decide) (rn_geq E rfl rfl rfl) ?_; clear E a; intro a E
        refine list_pure E rfl rfl (by decide) (rn_pick_no' E rfl rfl hb93 rfl) ?_; clear E a; intro a E
        refine wpList_nil ?_
        refine then_k hK ?_; clear hK; clear K
        refine if_bool E rfl (fun hb => ?_) (fun hb => ?_)
        · replace hb := Nrm.nrm hb
          obtain ⟨-, -, h1, h2, h3⟩ := hcs.resolve_right (fun q => by omega)
          refine wp_seq_k ?_; intro K hK
          refine region_list ?_
          refine list_pure E rfl rfl (by decide) (rn_move E rfl rfl) ?_; clear E a; intro a E
          refine list_pure E rfl rfl (by decide) (by first | exact rn_eql E rfl rfl rfl | exact rn_eql_ptr_nil E rfl rfl rfl rfl | exact rn_eql_bool E rfl rfl rfl rfl | exact rn_eql_string E rfl rfl rfl) ?_; clear E a; intro a E
          refine list_pure E rfl rfl (by decide) (rn_move E rfl rfl) ?_; clear E a; intro a E
          refine guard_true E (t := 100) rfl ((by simp [h1])) (fun hb100 => ?_)
          refine list_guard_yes E rfl rfl rfl rfl hb100 rfl (by decide) (rn_move E rfl rfl) ?_; clear E a; intro a E
          refine list_guard_yes E rfl rfl rfl rfl hb100 rfl (by decide) (by first | exact rn_eql E rfl rfl rfl | exact rn_eql_ptr_nil E rfl rfl rfl rfl | exact rn_eql_bool E rfl rfl rfl rfl | exact rn_eql_string E rfl rfl rfl) ?_; clear E a; intro a E
          refine list_pure E rfl rfl (by decide) (rn_pick_yes' E rfl rfl hb100 rfl) ?_; clear E a; intro a E
          refine list_pure E rfl rfl (by decide) (rn_move E rfl rfl) ?_; clear E a; intro a E
          refine guard_true E (t := 104) rfl ((by simp [flE, h2])) (fun hb104 => ?_)
          refine list_guard_yes E rfl rfl rfl rfl hb104 rfl (by decide) (rn_move E rfl rfl) ?_; clear E a; intro a E
          refine list_guard_yes E rfl rfl rfl rfl hb104 rfl (by decide) (by first | exact rn_eql E rfl rfl rfl | exact rn_eql_ptr_nil E rfl rfl rfl rfl | exact rn_eql_bool E rfl rfl rfl rfl | exact rn_eql_string E rfl rfl rfl) ?_; clear E a; intro a E
          refine list_pure E rfl rfl (by decide) (rn_pick_yes' E rfl rfl hb104 rfl) ?_; clear E a; intro a E
          refine list_pure E rfl rfl (by decide) (rn_move E rfl rfl) ?_; clear E a; intro a E
          refine guard_true E (t := 108) rfl ((by simp [rdS, h2, rdMay, hwl1])) (fun hb108 => ?_)
          refine list_guard_yes E rfl rfl rfl rfl hb108 rfl (by decide) (rn_move E rfl rfl) ?_; clear E a; intro a E
          refine list_guard_wp E rfl rfl rfl rfl hb108 ?_; refine wp_call' E rfl (by decide) rfl Try.func15 rfl (by kernel_rfl) rfl (on_ret p r.1 _ _ _ (S.hp.sel (sel_cons (by repeat (first | exact pk1 | apply pick_tail)) (sel_nil _)))) ?_
          rintro v110 w ⟨rfl, hT⟩; clear E a; intro a E
          have S := S.call1 (sel_cons (by repeat (first | exact pk1 | apply pick_tail)) (sel_nil _)) hT
          refine list_pure E rfl rfl (by decide) (rn_pick_yes' E rfl rfl hb108 rfl) ?_; clear E a; intro a E
          refine list_pure E rfl rfl (by decide) (rn_move E rfl rfl) ?_; clear E a; intro a E
          refine guard_true E (t := 112) rfl ((by simp [h2])) (fun hb112 => ?_)
          refine list_guard_yes E rfl rfl rfl rfl hb112 rfl (by decide) (rn_move E rfl rfl) ?_; clear E a; intro a E
          refine list_guard_wp E rfl rfl rfl rfl hb112 ?_; refine wp_call' E rfl (by decide) rfl Try.func18 rfl (by kernel_rfl) rfl (writes_ret p r.1 _ _ _ (S.hp.sel (sel_cons (by repeat (first | exact pk1 | apply pick_tail)) (sel_nil _)))) ?_
          rintro v114 w ⟨rfl, hT⟩; clear E a; intro a E
          have S := S.call1 (sel_cons (by repeat (first | exact pk1 | apply pick_tail)) (sel_nil _)) hT
          refine list_guard_yes E rfl rfl rfl rfl hb112 rfl (by decide) (rn_move E rfl rfl) ?_; clear E a; intro a E
          refine list_guard_yes E rfl rfl rfl rfl hb112 rfl (by decide) (by first | exact rn_eql E rfl rfl rfl | exact rn_eql_ptr_nil E rfl rfl rfl rfl | exact rn_eql_bool E rfl rfl rfl rfl | exact rn_eql_string E rfl rfl rfl) ?_; clear E a; intro a E
          refine list_pure E rfl rfl (by decide) (rn_pick_yes' E rfl rfl hb112 rfl) ?_; clear E a; intro a E
          refine list_pure E rfl rfl (by decide) (rn_assign E rfl rfl) ?_; clear E a; intro a E
          refine wpList_nil ?_
          refine then_k hK ?_; clear hK; clear K
          refine wp_ret ?_
          refine then_ret ?_; clear hK; clear K
          refine ret1 E rfl rfl ?_
          exact ⟨_, rfl, by simp [h3], (S.only (Bs := [O]) (sel_cons (by repeat (first | exact pk1 | apply pick_tail)) (sel_nil _))).tr⟩
        · replace hb := Nrm.nrm hb
          have hyy : ¬ (after < 0 ∨ ((b.length / 128 : Nat) : Int) ≤ after) := (by omega); obtain ⟨-, -, -, h1, h2, h3, h4⟩ := hcs.resolve_left (fun q => hyy q.2.1)
          refine wp_skip ?_
          refine then_k hK ?_; clear hK; clear K
          refine wp_seq_k ?_; intro K hK
          refine region_list ?_
          refine list_pure E rfl rfl (by decide) (rn_move E rfl rfl) ?_; clear E a; intro a E
          refine list_pure E rfl rfl (by decide) (by first | exact rn_eql E rfl rfl rfl | exact rn_eql_ptr_nil E rfl rfl rfl rfl | exact rn_eql_bool E rfl rfl rfl rfl | exact rn_eql_string E rfl rfl rfl) ?_; clear E a; intro a E
          refine list_pure E rfl rfl (by decide) (rn_move E rfl rfl) ?_; clear E a; intro a E
          refine guard_true E (t := 120) rfl ((by simp [h1])) (fun hb120 => ?_)
          refine list_guard_yes E rfl rfl rfl rfl hb120 rfl (by decide) (rn_move E rfl rfl) ?_; clear E a; intro a E
          refine list_guard_yes E rfl rfl rfl rfl hb120 rfl (by decide) (by first | exact rn_eql E rfl rfl rfl | exact rn_eql_ptr_nil E rfl rfl rfl rfl | exact rn_eql_bool E rfl rfl rfl rfl | exact rn_eql_string E rfl rfl rfl) ?_; clear E a; intro a E
          refine list_pure E rfl rfl (by decide) (rn_pick_yes' E rfl rfl hb120 rfl) ?_; clear E a; intro a E
          refine list_pure E rfl rfl (by decide) (rn_move E rfl rfl) ?_; clear E a; intro a E
          refine guard_true E (t := 124) rfl ((by simp [flE, h2])) (fun hb124 => ?_)
          refine list_guard_yes E rfl rfl rfl rfl hb124 rfl (by decide) (rn_move E rfl rfl) ?_; clear E a; intro a E
          refine list_guard_yes E rfl rfl rfl rfl hb124 rfl (by decide) (by first | exact rn_eql E rfl rfl rfl | exact rn_eql_ptr_nil E rfl rfl rfl rfl | exact rn_eql_bool E rfl rfl rfl rfl | exact rn_eql_string E rfl rfl rfl) ?_; clear E a; intro a E
          refine list_pure E rfl rfl (by decide) (rn_pick_yes' E rfl rfl hb124 rfl) ?_; clear E a; intro a E
          refine list_pure E rfl rfl (by decide) (rn_move E rfl rfl) ?_; clear E a; intro a E
          refine guard_true E (t := 128) rfl ((by simp [rdS, h2])) (fun hb128 => ?_)
          refine list_guard_yes E rfl rfl rfl rfl hb128 rfl (by decide) (rn_move E rfl rfl) ?_; clear E a; intro a E
          refine list_guard_wp E rfl rfl rfl rfl hb128 ?_; refine wp_call' E rfl (by decide) rfl Try.func15 rfl (by kernel_rfl) rfl (on_ret p r.1 _ _ _ (S.hp.sel (sel_cons (by repeat (first | exact pk1 | apply pick_tail)) (sel_nil _)))) ?_
          rintro v130 w ⟨rfl, hT⟩; clear E a; intro a E
          have S := S.call1 (sel_cons (by repeat (first | exact pk1 | apply pick_tail)) (sel_nil _)) hT
          refine list_guard_yes E rfl rfl rfl rfl hb128 rfl (by decide) (rn_not E rfl rfl) ?_; clear E a; intro a E
          refine list_pure E rfl rfl (by decide) (rn_pick_yes' E rfl rfl hb128 rfl) ?_; clear E a; intro a E
          refine list_pure E rfl rfl (by decide) (rn_move E rfl rfl) ?_; clear E a; intro a E
          refine guard_true E (t := 133) rfl ((by simp [h2])) (fun hb133 => ?_)
          refine list_guard_yes E rfl rfl rfl rfl hb133 rfl (by decide) (rn_move E rfl rfl) ?_; clear E a; intro a E
          refine list_guard_wp E rfl rfl rfl rfl hb133 ?_; refine wp_call' E rfl (by decide) rfl Try.func18 rfl (by kernel_rfl) rfl (writes_ret p r.1 _ _ _ (S.hp.sel (sel_cons (by repeat (first | exact pk1 | apply pick_tail)) (sel_nil _)))) ?_
          rintro v135 w ⟨rfl, hT⟩; clear E a; intro a E
          have S := S.call1 (sel_cons (by repeat (first | exact pk1 | apply pick_tail)) (sel_nil _)) hT
          refine list_guard_yes E rfl rfl rfl rfl hb133 rfl (by decide) (rn_move E rfl rfl) ?_; clear E a; intro a E
          refine list_guard_yes E rfl rfl rfl rfl hb133 rfl (by decide) (by first | exact rn_eql E rfl rfl rfl | exact rn_eql_ptr_nil E rfl rfl rfl rfl | exact rn_eql_bool E rfl rfl rfl rfl | exact rn_eql_string E rfl rfl rfl) ?_; clear E a; intro a E
          refine list_pure E rfl rfl (by decide) (rn_pick_yes' E rfl rfl hb133 rfl) ?_; clear E a; intro a E
          refine list_pure E rfl rfl (by decide) (rn_move E rfl rfl) ?_; clear E a; intro a E
          refine guard_true E (t := 139) rfl ((by simp [h3])) (fun hb139 => ?_)
          refine list_guard_yes E rfl rfl rfl rfl hb139 rfl (by decide) (rn_move E rfl rfl) ?_; clear E a; intro a E
          refine list_guard_wp E rfl rfl rfl rfl hb139 ?_; refine wp_call' E rfl (by decide) rfl Try.func13 rfl (by kernel_rfl) rfl (waiting_ret p r.1 adw ws2.length cw _ _ (S.hp.sel (sel_cons (by repeat (first | exact pk1 | apply pick_tail)) (sel_nil _)))) ?_
          rintro v141 w ⟨rfl, hT⟩; clear E a; intro a E
          have S := S.call1 (sel_cons (by repeat (first | exact pk1 | apply pick_tail)) (sel_nil _)) hT
          refine list_guard_yes E rfl rfl rfl rfl hb139 rfl (by decide) (rn_move E rfl rfl) ?_; clear E a; intro a E
          refine list_guard_yes E rfl rfl rfl rfl hb139 rfl (by decide) (by first | exact rn_eql E rfl rfl rfl | exact rn_eql_ptr_nil E rfl rfl rfl rfl | exact rn_eql_bool E rfl rfl rfl rfl | exact rn_eql_string E rfl rfl rfl) ?_; clear E a; intro a E
          refine list_pure E rfl rfl (by decide) (rn_pick_yes' E rfl rfl hb139 rfl) ?_; clear E a; intro a E
          refine list_pure E rfl rfl (by decide) (rn_assign E rfl rfl) ?_; clear E a; intro a E
          refine wpList_nil ?_
          have hws3 : ws2 = r.2.2.1 := by rw [hws2, flW, if_neg (by simp [flE, h2])]
          refine then_k hK ?_; clear hK; clear K
          refine wp_seq_k ?_; intro K hK
          replace E := E.keep (e' := [(8, _), (9, _), (17, _)]) (keep_cons rfl (keep_cons rfl (keep_cons rfl (keep_nil))))
          refine region_list ?_
          refine list_pure E rfl rfl (by decide) (rn_move E rfl rfl) ?_; clear E a; intro a E
          have S := S.addNil.front6 (A := [(p, _)]) (by repeat (first | exact pk1 | apply pick_tail)) (B := Cw2) (by repeat (first | exact pk1 | apply pick_tail)) (C := Cd) (by repeat (first | exact pk1 | apply pick_tail)) (D := [(d, _)]) (by repeat (first | exact pk1 | apply pick_tail)) (F := [(gp, _)]) (by repeat (first | exact pk1 | apply pick_tail)) (G := [(gn, _)]) (by repeat (first | exact pk1 | apply pick_tail))
          refine list_call E rfl rfl (by decide) rfl Try.func14 rfl (by kernel_rfl) rfl (up1_ret p d gp gn 1024 false r.1 _ _ pl2 r.2.1 hpl2l hwl1 (by omega) ws2 Cw2 hCw2 Cd hCd hwf2 (.slice none 0 0) [] [] (Rd.nil [] 1) _ (show [] ∈ _ from (by repeat (first | exact mm1 | assumption | apply List.Mem.tail))) _ S.hp) ?_
          rintro v146 w hT; clear E a; intro a E
          have S := S.all hT; rw [upS_none] at S
          refine wpList_nil ?_
          refine then_k hK ?_; clear hK; clear K
          refine wp_seq_k ?_; intro K hK
          refine region_list ?_
          refine list_pure E rfl rfl (by decide) (rn_move E rfl rfl) ?_; clear E a; intro a E
          refine list_pure E rfl rfl (by decide) (rn_move E rfl rfl) ?_; clear E a; intro a E
          refine guard_true E (t := 148) rfl ((by simp; rw [hws3]; exact h4)) (fun hb148 => ?_)
          refine list_guard_yes E rfl rfl rfl rfl hb148 rfl (by decide) (rn_move E rfl rfl) ?_; clear E a; intro a E
          refine list_guard_wp E rfl rfl rfl rfl hb148 ?_; refine wp_call' E rfl (by decide) rfl Try.func15 rfl (by kernel_rfl) rfl (on_ret p ⟨-1, false, r.1.wr⟩ _ _ _ (S.hp.sel (sel_cons (by repeat (first | exact pk1 | apply pick_tail)) (sel_nil _)))) ?_
          rintro v150 w ⟨rfl, hT⟩; clear E a; intro a E
          have S := (S.call1 (sel_cons (by repeat (first | exact pk1 | apply pick_tail)) (sel_nil _)) hT).addNil
          refine list_pure E rfl rfl (by decide) (rn_pick_yes' E rfl rfl hb148 rfl) ?_; clear E a; intro a E
          refine list_pure E rfl rfl (by decide) (rn_move E rfl rfl) ?_; clear E a; intro a E
          refine guard_true E (t := 152) rfl (rfl) (fun hb152 => ?_)
          refine list_guard_yes E rfl rfl rfl rfl hb152 rfl (by decide) (rn_move E rfl rfl) ?_; clear E a; intro a E
          have S := S.front4 (A := [(p, _)]) (by repeat (first | exact pk1 | apply pick_tail)) (B := []) (by repeat (first | exact pk1 | apply pick_tail)) (C := [(d, _)]) (by repeat (first | exact pk1 | apply pick_tail)) (D := [(gn, _)]) (by repeat (first | exact pk1 | apply pick_tail))
          refine list_guard_wp E rfl rfl rfl rfl hb152 ?_; refine wp_call' E rfl (by decide) rfl Try.func10 rfl (by kernel_rfl) rfl (dwrite_ret d p gn gp 1024 false ⟨-1, false, r.1.wr⟩ _ _ pl2 hpl2l (by omega) [] (by simp) (by simp only; omega) (by simp) [] (Buf.nil _ _) 0 (by omega) _ [] [] (Rd.nil [] 1) ⟨_, _, rfl, by simp⟩ _ (show [] ∈ _ from (by repeat (first | exact mm1 | assumption | apply List.Mem.tail))) _ S.hp) ?_
          rintro v154 w ⟨vw3, Cw3, rfl, hCw3, hwl3, hT⟩; clear E a; intro a E
          have S := S.all hT
          refine list_guard_yes E rfl rfl rfl rfl hb152 rfl (by decide) (by first | exact rn_eql E rfl rfl rfl | exact rn_eql_ptr_nil E rfl rfl rfl rfl | exact rn_eql_bool E rfl rfl rfl rfl | exact rn_eql_string E rfl rfl rfl) ?_; clear E a; intro a E
          refine list_pure E rfl rfl (by decide) (rn_pick_yes' E rfl rfl hb152 rfl) ?_; clear E a; intro a E
          refine list_pure E rfl rfl (by decide) (rn_assign E rfl rfl) ?_; clear E a; intro a E
          refine wpList_nil ?_
          refine then_k hK ?_; clear hK; clear K
          refine wp_ret ?_
          refine ret1 E rfl rfl ?_
          exact ⟨_, rfl, by simp [wrS, wrMay, wrN], (S.only (Bs := [O]) (sel_cons (by repeat (first | exact pk1 | apply pick_tail)) (sel_nil _))).tr⟩
end Go.Proofs.Ytpppaohhnlgfoaa
