/-
  Disks: bits of a sector turned about.
-/
import Derived.Test.YtpppaohhnlgfoaaRackP
namespace Go.Sl
def turnW (w : Wt) (mask : List UInt8) : Wt := ⟨w.d, w.at_, xorB w.b mask, by rw [xorB_length]; exact w.hb⟩
def coW (d a : Nat) (mask : List UInt8) (ws : List Wt) : List Wt := ws.map fun w => if w.d = d ∧ w.at_ = a then turnW w mask else w
def coMay (n : Nat) (at_ : Int) (mask : List UInt8) : Prop := 0 ≤ at_ ∧ at_ < (n / 128 : Nat) ∧ mask.length ≤ 128
instance (n : Nat) (at_ : Int) (mask : List UInt8) : Decidable (coMay n at_ mask) := by unfold coMay; infer_instance
def coE (f : Bool) (n : Nat) (at_ : Int) (mask : List UInt8) : Int := if f then 30 else if coMay n at_ mask then 0 else 1
def coB (f : Bool) (n : Nat) (at_ : Int) (mask b : List UInt8) : List UInt8 := if coE f n at_ mask = 0 then setS b at_.toNat (xorB (secB b at_.toNat) mask) else b
def coWs (d : Nat) (f : Bool) (n : Nat) (at_ : Int) (mask : List UInt8) (ws : List Wt) : List Wt := if coE f n at_ mask = 0 then coW d at_.toNat mask ws else ws
theorem byt_split (b : List UInt8) (i : Nat) : byt b = byt (b.take (128 * i)) ++ byt (secB b i) ++ byt (b.drop (128 * i + 128)) := by
  rw [secB, ← byt_append, ← byt_append]
  congr 1
  rw [List.append_assoc, ← List.drop_drop, List.take_append_drop, List.take_append_drop]
theorem byt_turned (b m : List UInt8) (i : Nat) : byt (b.take (128 * i)) ++ byt (xorB (secB b i) m) ++ byt (b.drop (128 * i + 128)) = byt (setS b i (xorB (secB b i) m)) := by
  rw [setS, byt_append, byt_append]
theorem wl_at (A B : List Wt) (w : Wt) (r : List Value) : wl (A ++ w :: B) ++ r = (wl A ++ [ptr w.d, .int .i64 w.at_]) ++ byt w.b ++ (wl B ++ r) := by
  simp [wl, Wt.lay]
theorem coW_take (d a : Nat) (mask : List UInt8) (ws : List Wt) {i : Nat} (hi : i < ws.length) : coW d a mask (ws.take (i + 1)) = coW d a mask (ws.take i) ++ [if ws[i].d = d ∧ ws[i].at_ = a then turnW ws[i] mask else ws[i]] := by
  rw [← List.take_append_getElem hi, coW, coW, List.map_append]; rfl
theorem coW_length (d a : Nat) (mask : List UInt8) (ws : List Wt) : (coW d a mask ws).length = ws.length := by rw [coW, List.length_map]
end Go.Sl
namespace Go.Proofs.Ytpppaohhnlgfoaa
open Go.Sl
set_option maxRecDepth 10000

theorem corrupt_ret (d p gp gn n : Nat) (f : Bool) (s : Pw) (vw vd : Value) (pl nw : List UInt8) (hpl : pl.length = n) (hnw : nw.length = n) (hn : n ≤ 1048576) (ws : List Wt) (Cw : Chunk) (hCw : Buf Cw 65 130 vw ws.length (wl ws))
    (at_ : Int) (v : Value) (mask : List UInt8) (D : Chunk) (hD : Rd D 1 v mask.length (byt mask)) (As : List Chunk) (hDA : D ∈ As) (hB : ∀ x ∈ ws, x.d = d ∨ Bks As x.d) (w0 : World)
    (H : Hp w0 ([(p, pcl s vw vd)] :: Cw :: [(d, dcl p gp gn n f)] :: [(gp, cel (byt pl) 5)] :: [(gn, cel (byt nw) 5)] :: As)) :
    Ret Try.prog 38 #[ptr d, .int .i64 at_, v] w0 fun u w' => u = .int .i64 (coE f n at_ mask) ∧ ∃ Cw', Buf Cw' 65 130 vw ws.length (wl (coWs d f n at_ mask ws)) ∧
      Trs w0 w' ([(p, pcl s vw vd)] :: Cw :: [(d, dcl p gp gn n f)] :: [(gp, cel (byt pl) 5)] :: [(gn, cel (byt nw) 5)] :: As)
        ([(p, pcl s vw vd)] :: Cw' :: [(d, dcl p gp gn n f)] :: [(gp, cel (byt (coB f n at_ mask pl)) 5)] :: [(gn, cel (byt (coB f n at_ mask nw)) 5)] :: As) := by
  have S := St.begin H
  obtain ⟨ad, c, rfl⟩ := hD.slice
  obtain ⟨adw, cw, rfl⟩ := hCw.slice
  have hwm := hCw.rd.2.2.1
  simp only [maxLen] at hwm
  have nothing : coE f n at_ mask ≠ 0 → ∀ {w' : World}, St w0 ([(p, pcl s (.slice adw ws.length cw) vd)] :: Cw :: [(d, dcl p gp gn n f)] :: [(gp, cel (byt pl) 5)] :: [(gn, cel (byt nw) 5)] :: As) w' ([(p, pcl s (.slice adw ws.length cw) vd)] :: Cw :: [(d, dcl p gp gn n f)] :: [(gp, cel (byt pl) 5)] :: [(gn, cel (byt nw) 5)] :: As) →
      ∃ Cw', Buf Cw' 65 130 (.slice adw ws.length cw) ws.length (wl (coWs d f n at_ mask ws)) ∧ Trs w0 w' ([(p, pcl s (.slice adw ws.length cw) vd)] :: Cw :: [(d, dcl p gp gn n f)] :: [(gp, cel (byt pl) 5)] :: [(gn, cel (byt nw) 5)] :: As)
        ([(p, pcl s (.slice adw ws.length cw) vd)] :: Cw' :: [(d, dcl p gp gn n f)] :: [(gp, cel (byt (coB f n at_ mask pl)) 5)] :: [(gn, cel (byt (coB f n at_ mask nw)) 5)] :: As) := fun h w' S => by
    rw [coWs, coB, coB, if_neg h, if_neg h, if_neg h]; exact ⟨Cw, hCw, S.tr⟩
  refine enter3 85 Try.func38 rfl rfl (by decide) ?_; intro a E
  refine wp_seq_k ?_; intro K hK
  refine region_list ?_
  refine list_pure E rfl rfl (by decide) (rn_assign E rfl rfl) ?_; clear E a; intro a E
  refine wpList_nil ?_
  refine then_k hK ?_; clear hK; clear K
  refine wp_seq_k ?_; intro K hK
  refine wp_seq_k ?_; intro K hK
  refine region_list ?_
  refine list_pure E rfl rfl (by decide) (rn_move E rfl rfl) ?_; clear E a; intro a E
  refine list_pure E rfl rfl (by decide) (rn_nilCheck E rfl rfl) ?_; clear E a; intro a E
  refine list_pure E rfl rfl (by decide) (by first | exact rn_fieldAddr0 (q := 3) E rfl rfl rfl | exact rn_fieldAddr (q := 3) E rfl rfl rfl) ?_; clear E a; intro a E
  refine list_pure E rfl rfl (by decide) (by first | exact rn_load E rfl rfl rfl (S.get (by repeat (first | exact pk1 | apply pick_tail))) rfl | exact rn_loadc E rfl rfl rfl (by assumption)) ?_; clear E a; intro a E
  refine wpList_nil ?_
  refine then_k hK ?_; clear hK; clear K
  refine if_bool E rfl (fun hb => ?_) (fun hb => ?_)
  · replace hb := Nrm.nrm hb
    refine wp_seq_k ?_; intro K hK
    refine region_list ?_
    refine list_pure E rfl rfl (by decide) (rn_assign E rfl rfl) ?_; clear E a; intro a E
    refine wpList_nil ?_
    refine then_k hK ?_; clear hK; clear K
    refine wp_ret ?_
    refine then_ret ?_; clear hK; clear K
    refine ret1 E rfl rfl ?_
    have hE : coE f n at_ mask = 30 := by rw [coE, if_pos (by simpa using hb)]
    exact ⟨_, rfl, by rw [hE], nothing (by rw [hE]; decide) S⟩
  · replace hb := Nrm.nrm hb
    refine wp_skip ?_
    refine then_k hK ?_; clear hK; clear K
    refine wp_seq_k ?_; intro K hK
    refine wp_seq_k ?_; intro K hK
    have hf : f = false := by simpa using hb
    subst hf
    refine region_list ?_
    refine list_pure E rfl rfl (by decide) (rn_move E rfl rfl) ?_; clear E a; intro a E
    refine list_pure E rfl rfl (by decide) (rn_lss E rfl rfl rfl) ?_; clear E a; intro a E
    refine list_pure E rfl rfl (by decide) (rn_move E rfl rfl) ?_; clear E a; intro a E
    refine guard_split E (t := 15) rfl (fun hb15 => ?_) (fun hb15 => ?_)
    · have hb15n := hb15; replace hb15n := Nrm.nrm hb15n
      refine list_guard_no E rfl rfl rfl rfl hb15 rfl (by decide) ?_; clear E a; intro a E
      refine list_guard_no E rfl rfl rfl rfl hb15 rfl (by decide) ?_; clear E a; intro a E
      refine list_guard_no E rfl rfl rfl rfl hb15 rfl (by decide) ?_; clear E a; intro a E
      refine list_guard_no E rfl rfl rfl rfl hb15 rfl (by decide) ?_; clear E a; intro a E
      refine list_pure E rfl rfl (by decide) (rn_pick_yes' E rfl rfl hb15 rfl) ?_; clear E a; intro a E
      refine list_pure E rfl rfl (by decide) (rn_move E rfl rfl) ?_; clear E a; intro a E
      refine list_guard_no E rfl rfl rfl rfl rfl rfl (by decide) ?_; clear E a; intro a E
      refine list_guard_no E rfl rfl rfl rfl rfl rfl (by decide) ?_; clear E a; intro a E
      refine list_guard_no E rfl rfl rfl rfl rfl rfl (by decide) ?_; clear E a; intro a E
      refine list_pure E rfl rfl (by decide) (rn_pick_yes' E rfl rfl rfl rfl) ?_; clear E a; intro a E
      refine wpList_nil ?_
      refine then_k hK ?_; clear hK; clear K
      refine if_true' E rfl rfl ?_
      refine wp_seq_k ?_; intro K hK
      refine region_list ?_
      refine list_pure E rfl rfl (by decide) (rn_assign E rfl rfl) ?_; clear E a; intro a E
      refine wpList_nil ?_
      refine then_k hK ?_; clear hK; clear K
      refine wp_ret ?_
      refine then_ret ?_; clear hK; clear K
      refine ret1 E rfl rfl ?_
      have hno : ¬ coMay n at_ mask := by intro q; obtain ⟨q1, q2, q3⟩ := q; omega
      have hE : coE false n at_ mask = 1 := by rw [coE, if_neg (by simp), if_neg hno]
      exact ⟨_, rfl, by rw [hE], nothing (by rw [hE]; decide) (by first | exact S | exact S.front5 (A := [(p, _)]) (by repeat (first | exact pk1 | apply pick_tail)) (B := Cw) (by repeat (first | exact pk1 | apply pick_tail)) (C := [(d, _)]) (by repeat (first | exact pk1 | apply pick_tail)) (D := [(gp, _)]) (by repeat (first | exact pk1 | apply pick_tail)) (F := [(gn, _)]) (by repeat (first | exact pk1 | apply pick_tail)))⟩
    · have hb15n := hb15; replace hb15n := Nrm.nrm hb15n
      refine list_guard_yes E rfl rfl rfl rfl hb15 rfl (by decide) (rn_move E rfl rfl) ?_; clear E a; intro a E
      refine list_guard_yes E rfl rfl rfl rfl hb15 rfl (by decide) (rn_move E rfl rfl) ?_; clear E a; intro a E
      refine list_guard_wp E rfl rfl rfl rfl hb15 ?_; refine wp_call' E rfl (by decide) rfl Try.func25 rfl (by kernel_rfl) rfl (sectors_ret d p gp gn n false hn _ (S.hp.sel (sel_cons (by repeat (first | exact pk1 | apply pick_tail)) (sel_nil _)))) ?_
      rintro v18 w ⟨rfl, hT⟩; clear E a; intro a E
      have S := S.call1 (sel_cons (by repeat (first | exact pk1 | apply pick_tail)) (sel_nil _)) hT
      refine list_guard_yes E rfl rfl rfl rfl hb15 rfl (by decide) (rn_geq E rfl rfl rfl) ?_; clear E a; intro a E
      refine list_pure E rfl rfl (by decide) (rn_pick_no' E rfl rfl hb15 rfl) ?_; clear E a; intro a E
      refine list_pure E rfl rfl (by decide) (rn_move E rfl rfl) ?_; clear E a; intro a E
      refine guard_split E (t := 21) rfl (fun hb21 => ?_) (fun hb21 => ?_)
      · have hb21n := hb21; replace hb21n := Nrm.nrm hb21n
        refine list_guard_no E rfl rfl rfl rfl hb21 rfl (by decide) ?_; clear E a; intro a E
        refine list_guard_no E rfl rfl rfl rfl hb21 rfl (by decide) ?_; clear E a; intro a E
        refine list_guard_no E rfl rfl rfl rfl hb21 rfl (by decide) ?_; clear E a; intro a E
        refine list_pure E rfl rfl (by decide) (rn_pick_yes' E rfl rfl hb21 rfl) ?_; clear E a; intro a E
        refine wpList_nil ?_
        refine then_k hK ?_; clear hK; clear K
        refine if_true' E rfl rfl ?_
        refine wp_seq_k ?_; intro K hK
        refine region_list ?_
        refine list_pure E rfl rfl (by decide) (rn_assign E rfl rfl) ?_; clear E a; intro a E
        refine wpList_nil ?_
        refine then_k hK ?_; clear hK; clear K
        refine wp_ret ?_
        refine then_ret ?_; clear hK; clear K
        refine ret1 E rfl rfl ?_
        have hno : ¬ coMay n at_ mask := by intro q; obtain ⟨q1, q2, q3⟩ := q; omega
        have hE : coE false n at_ mask = 1 := by rw [coE, if_neg (by simp), if_neg hno]
        exact ⟨_, rfl, by rw [hE], nothing (by rw [hE]; decide) (by first | exact S | exact S.front5 (A := [(p, _)]) (by repeat (first | exact pk1 | apply pick_tail)) (B := Cw) (by repeat (first | exact pk1 | apply pick_tail)) (C := [(d, _)]) (by repeat (first | exact pk1 | apply pick_tail)) (D := [(gp, _)]) (by repeat (first | exact pk1 | apply pick_tail)) (F := [(gn, _)]) (by repeat (first | exact pk1 | apply pick_tail)))⟩
      · have hb21n := hb21; replace hb21n := Nrm.nrm hb21n
        refine list_guard_yes E rfl rfl rfl rfl hb21 rfl (by decide) (rn_move E rfl rfl) ?_; clear E a; intro a E
        refine list_guard_yes E rfl rfl rfl rfl hb21 rfl (by decide) (by first | exact rn_len E rfl rfl rfl | exact rn_len_str E rfl rfl rfl | exact rn_len_string E rfl rfl rfl) ?_; clear E a; intro a E
        refine list_guard_yes E rfl rfl rfl rfl hb21 rfl (by decide) (rn_gtr E rfl rfl rfl) ?_; clear E a; intro a E
        refine list_pure E rfl rfl (by decide) (rn_pick_no' E rfl rfl hb21 rfl) ?_; clear E a; intro a E
        refine wpList_nil ?_
        refine then_k hK ?_; clear hK; clear K
        refine if_bool E rfl (fun hb => ?_) (fun hb => ?_)
        · replace hb := Nrm.nrm hb
          refine wp_seq_k ?_; intro K hK
          refine region_list ?_
          refine list_pure E rfl rfl (by decide) (rn_assign E rfl rfl) ?_; clear E a; intro a E
          refine wpList_nil ?_
          refine then_k hK ?_; clear hK; clear K
          refine wp_ret ?_
          refine then_ret ?_; clear hK; clear K
          refine ret1 E rfl rfl ?_
          have hno : ¬ coMay n at_ mask := by intro q; obtain ⟨q1, q2, q3⟩ := q; omega
          have hE : coE false n at_ mask = 1 := by rw [coE, if_neg (by simp), if_neg hno]
          exact ⟨_, rfl, by rw [hE], nothing (by rw [hE]; decide) (by first | exact S | exact S.front5 (A := [(p, _)]) (by repeat (first | exact pk1 | apply pick_tail)) (B := Cw) (by repeat (first | exact pk1 | apply pick_tail)) (C := [(d, _)]) (by repeat (first | exact pk1 | apply pick_tail)) (D := [(gp, _)]) (by repeat (first | exact pk1 | apply pick_tail)) (F := [(gn, _)]) (by repeat (first | exact pk1 | apply pick_tail)))⟩
        · replace hb := Nrm.nrm hb
          refine wp_skip ?_
          refine then_k hK ?_; clear hK; clear K
          refine wp_seq_k ?_; intro K hK
          have hyes : coMay n at_ mask := ⟨by omega, by omega, by omega⟩
          have hE : coE false n at_ mask = 0 := by rw [coE, if_neg (by simp), if_pos hyes]
          obtain ⟨hy1, hy2, hy3⟩ := hyes
          obtain ⟨an, rfl⟩ : ∃ an : Nat, at_ = an := ⟨at_.toNat, by omega⟩
          have S := S.front5 (A := [(p, _)]) (by repeat (first | exact pk1 | apply pick_tail)) (B := Cw) (by repeat (first | exact pk1 | apply pick_tail)) (C := [(d, _)]) (by repeat (first | exact pk1 | apply pick_tail)) (D := [(gp, _)]) (by repeat (first | exact pk1 | apply pick_tail)) (F := [(gn, _)]) (by repeat (first | exact pk1 | apply pick_tail))
          refine region_list ?_
          refine list_pure E rfl rfl (by decide) (rn_move E rfl rfl) ?_; clear E a; intro a E
          refine list_pure E rfl rfl (by decide) (rn_move E rfl rfl) ?_; clear E a; intro a E
          refine list_pure E rfl rfl (by decide) (rn_nilCheck E rfl rfl) ?_; clear E a; intro a E
          refine list_pure E rfl rfl (by decide) (by first | exact rn_fieldAddr0 (q := 1) E rfl rfl rfl | exact rn_fieldAddr (q := 1) E rfl rfl rfl) ?_; clear E a; intro a E
          refine list_pure E rfl rfl (by decide) (by first | exact rn_load E rfl rfl rfl (S.get (by repeat (first | exact pk1 | apply pick_tail))) rfl | exact rn_loadc E rfl rfl rfl (by assumption)) ?_; clear E a; intro a E
          refine list_pure E rfl rfl (by decide) (rn_move E rfl rfl) ?_; clear E a; intro a E
          refine list_call E rfl rfl (by decide) rfl Try.func30 rfl (by kernel_rfl) rfl (dsector_ret (ptr d) gp n an (by omega) hn _) ?_
          rintro v32 w ⟨rfl, hT⟩; clear E a; intro a E
          have S := S.quiet hT
          refine list_pure E rfl rfl (by decide) (rn_move E rfl rfl) ?_; clear E a; intro a E
          have S := (S.front1 (A := [(gp, _)]) (by repeat (first | exact pk1 | apply pick_tail))).cel (byt_split pl an)
          refine list_call E rfl rfl (by decide) rfl Try.func47 rfl (by kernel_rfl) rfl (turn_ret gp (128 * an) 128 (n - 128 * an) 5 (byt (pl.take (128 * an))) (byt (pl.drop (128 * an + 128))) (secB pl an) (by rw [byt_length, List.length_take]; omega) (secB_length (by omega)) (by omega) _ mask hy3 D hD _ (show D ∈ _ from (by repeat (first | exact mm1 | assumption | apply List.Mem.tail))) _ S.hp) ?_
          rintro v34 w hT; clear E a; intro a E
          have S := (S.all hT).cel (byt_turned _ _ _)
          refine wpList_nil ?_
          refine then_k hK ?_; clear hK; clear K
          refine wp_seq_k ?_; intro K hK
          replace E := E.keep (e' := [(0, _), (1, _), (2, _), (6, _)]) (keep_cons rfl (keep_cons rfl (keep_cons rfl (keep_cons rfl (keep_nil)))))
          refine region_list ?_
          refine list_pure E rfl rfl (by decide) (rn_move E rfl rfl) ?_; clear E a; intro a E
          refine list_pure E rfl rfl (by decide) (rn_move E rfl rfl) ?_; clear E a; intro a E
          refine list_pure E rfl rfl (by decide) (rn_nilCheck E rfl rfl) ?_; clear E a; intro a E
          refine list_pure E rfl rfl (by decide) (by first | exact rn_fieldAddr0 (q := 2) E rfl rfl rfl | exact rn_fieldAddr (q := 2) E rfl rfl rfl) ?_; clear E a; intro a E
          refine list_pure E rfl rfl (by decide) (by first | exact rn_load E rfl rfl rfl (S.get (by repeat (first | exact pk1 | apply pick_tail))) rfl | exact rn_loadc E rfl rfl rfl (by assumption)) ?_; clear E a; intro a E
          refine list_pure E rfl rfl (by decide) (rn_move E rfl rfl) ?_; clear E a; intro a E
          refine list_call E rfl rfl (by decide) rfl Try.func30 rfl (by kernel_rfl) rfl (dsector_ret (ptr d) gn n an (by omega) hn _) ?_
          rintro v41 w ⟨rfl, hT⟩; clear E a; intro a E
          have S := S.quiet hT
          refine list_pure E rfl rfl (by decide) (rn_move E rfl rfl) ?_; clear E a; intro a E
          have S := (S.front1 (A := [(gn, _)]) (by repeat (first | exact pk1 | apply pick_tail))).cel (byt_split nw an)
          refine list_call E rfl rfl (by decide) rfl Try.func47 rfl (by kernel_rfl) rfl (turn_ret gn (128 * an) 128 (n - 128 * an) 5 (byt (nw.take (128 * an))) (byt (nw.drop (128 * an + 128))) (secB nw an) (by rw [byt_length, List.length_take]; omega) (secB_length (by omega)) (by omega) _ mask hy3 D hD _ (show D ∈ _ from (by repeat (first | exact mm1 | assumption | apply List.Mem.tail))) _ S.hp) ?_
          rintro v43 w hT; clear E a; intro a E
          have S := (S.all hT).cel (byt_turned _ _ _)
          have S := S.front5 (A := [(p, _)]) (by repeat (first | exact pk1 | apply pick_tail)) (B := Cw) (by repeat (first | exact pk1 | apply pick_tail)) (C := [(d, _)]) (by repeat (first | exact pk1 | apply pick_tail)) (D := [(gp, _)]) (by repeat (first | exact pk1 | apply pick_tail)) (F := [(gn, _)]) (by repeat (first | exact pk1 | apply pick_tail))
          refine wpList_nil ?_
          refine then_k hK ?_; clear hK; clear K
          refine wp_seq_k ?_; intro K hK
          refine wp_seq_k ?_; intro K hK
          refine region_list ?_
          refine list_pure E rfl rfl (by decide) (rn_move E rfl rfl) ?_; clear E a; intro a E
          refine list_pure E rfl rfl (by decide) (rn_nilCheck E rfl rfl) ?_; clear E a; intro a E
          refine list_pure E rfl rfl (by decide) (by first | exact rn_fieldAddr0 (q := 0) E rfl rfl rfl | exact rn_fieldAddr (q := 0) E rfl rfl rfl) ?_; clear E a; intro a E
          refine list_pure E rfl rfl (by decide) (by first | exact rn_load E rfl rfl rfl (S.get (by repeat (first | exact pk1 | apply pick_tail))) rfl | exact rn_loadc E rfl rfl rfl (by assumption)) ?_; clear E a; intro a E
          refine list_pure E rfl rfl (by decide) (rn_nilCheck E rfl rfl) ?_; clear E a; intro a E
          refine list_pure E rfl rfl (by decide) (by first | exact rn_fieldAddr0 (q := 0) E rfl rfl rfl | exact rn_fieldAddr (q := 0) E rfl rfl rfl) ?_; clear E a; intro a E
          refine list_pure E rfl rfl (by decide) (by first | exact rn_load E rfl rfl rfl (S.get (by repeat (first | exact pk1 | apply pick_tail))) rfl | exact rn_loadc E rfl rfl rfl (by assumption)) ?_; clear E a; intro a E
          refine list_pure E rfl rfl (by decide) (by first | exact rn_len E rfl rfl rfl | exact rn_len_str E rfl rfl rfl | exact rn_len_string E rfl rfl rfl) ?_; clear E a; intro a E
          refine list_pure E rfl rfl (by decide) (rn_move E rfl rfl) ?_; clear E a; intro a E
          refine wpList_nil ?_
          refine then_k hK ?_; clear hK; clear K
          refine wp_block ?_
          refine wp_loop_ghost (fun (m : Nat) (a : Act) (w' : World) => ∃ (i : Nat) (Cx : Chunk), m = ws.length - i ∧ i ≤ ws.length ∧ Buf Cx 65 130 (.slice adw ws.length cw) ws.length (wl (coW d an mask (ws.take i) ++ ws.drop i)) ∧ St w0 ([(p, pcl s (.slice adw ws.length cw) vd)] :: Cw :: [(d, dcl p gp gn n false)] :: [(gp, cel (byt pl) 5)] :: [(gn, cel (byt nw) 5)] :: As) w' ([(p, pcl s (.slice adw ws.length cw) vd)] :: Cx :: [(d, dcl p gp gn n false)] :: [(gp, cel (byt (setS pl an (xorB (secB pl an) mask))) 5)] :: [(gn, cel (byt (setS nw an (xorB (secB nw an) mask))) 5)] :: As) ∧ Fr a 85 [(0, ptr d), (1, .int .i64 an), (2, .slice ad mask.length c), (51, .int .i64 ws.length), (52, .int .i64 i)]) (ws.length - 0) ?_ ?_
          · exact ⟨0, Cw, rfl, by omega, by simpa [coW] using hCw, S, E.keep (keep_cons rfl (keep_cons rfl (keep_cons rfl (keep_cons rfl (keep_cons rfl keep_nil)))))⟩
          clear E; clear a; (try clear S); rintro m a w ⟨i, Cx, rfl, hi, hCx, S, E⟩
          refine wp_seq_k ?_; intro K hK
          refine region_list ?_
          refine list_pure E rfl rfl (by decide) (rn_lss E rfl rfl rfl) ?_; clear E a; intro a E
          refine wpList_nil ?_
          refine then_k hK ?_; clear hK; clear K
          refine wp_seq_k ?_; intro K hK
          refine if_bool E rfl (fun hb => ?_) (fun hb => ?_)
          · replace hb := Nrm.nrm hb
            refine wp_skip ?_
            refine then_k hK ?_; clear hK; clear K
            refine wp_seq_k ?_; intro K hK
            refine wp_block ?_
            refine wp_seq_k ?_; intro K hK
            have hil : i < ws.length := by omega
            obtain ⟨x, hx⟩ : ∃ x, x = ws[i]'hil := ⟨_, rfl⟩
            have hbk := hB _ (List.getElem_mem hil)
            have htk := coW_take d an mask ws hil
            rw [← hx] at hbk htk
            obtain ⟨A, hA⟩ : ∃ A, A = coW d an mask (ws.take i) := ⟨_, rfl⟩
            obtain ⟨B, hBd⟩ : ∃ B, B = ws.drop (i + 1) := ⟨_, rfl⟩
            have hAl : A.length = i := by rw [hA, coW_length, List.length_take]; omega
            rw [List.drop_eq_getElem_cons hil, ← hx, ← hA, ← hBd] at hCx
            rw [← hA] at htk
            obtain ⟨gw, cw2, r, hv, rfl, hcw1, hcw2, hcw3⟩ := hCx.opened (by omega)
            cases hv
            have hlay := wl_at A B x r
            have hWA : (wl A).length = i * 130 := by rw [wl_len, hAl]
            have hc0 : (wl (A ++ x :: B) ++ r)[i * 130]? = some (ptr x.d) := by rw [hlay, List.append_assoc, List.append_assoc, List.getElem?_append_right (by omega), hWA, Nat.sub_self]; rfl
            have hc1 : (wl (A ++ x :: B) ++ r)[i * 130 + 1]? = some (.int .i64 x.at_) := by rw [hlay, List.append_assoc, List.append_assoc, List.getElem?_append_right (by omega), hWA, Nat.add_sub_cancel_left]; rfl
            have hlen2 : (wl (A ++ x :: B)).length = ws.length * 130 := hCx.1
            refine region_list ?_
            refine list_pure E rfl rfl (by decide) (rn_move E rfl rfl) ?_; clear E a; intro a E
            refine list_pure E rfl rfl (by decide) (rn_assign E rfl rfl) ?_; clear E a; intro a E
            refine wpList_nil ?_
            refine then_k hK ?_; clear hK; clear K
            refine wp_seq_k ?_; intro K hK
            refine region_list ?_
            refine list_pure E rfl rfl (by decide) (rn_move E rfl rfl) ?_; clear E a; intro a E
            refine list_pure E rfl rfl (by decide) (rn_nilCheck E rfl rfl) ?_; clear E a; intro a E
            refine list_pure E rfl rfl (by decide) (by first | exact rn_fieldAddr0 (q := 0) E rfl rfl rfl | exact rn_fieldAddr (q := 0) E rfl rfl rfl) ?_; clear E a; intro a E
            refine list_pure E rfl rfl (by decide) (by first | exact rn_load E rfl rfl rfl (S.get (by repeat (first | exact pk1 | apply pick_tail))) rfl | exact rn_loadc E rfl rfl rfl (by assumption)) ?_; clear E a; intro a E
            refine list_pure E rfl rfl (by decide) (rn_nilCheck E rfl rfl) ?_; clear E a; intro a E
            refine list_pure E rfl rfl (by decide) (by first | exact rn_fieldAddr0 (q := 0) E rfl rfl rfl | exact rn_fieldAddr (q := 0) E rfl rfl rfl) ?_; clear E a; intro a E
            refine list_pure E rfl rfl (by decide) (by first | exact rn_load E rfl rfl rfl (S.get (by repeat (first | exact pk1 | apply pick_tail))) rfl | exact rn_loadc E rfl rfl rfl (by assumption)) ?_; clear E a; intro a E
            refine list_pure E rfl rfl (by decide) (rn_move E rfl rfl) ?_; clear E a; intro a E
            refine list_pure E rfl rfl (by decide) (rn_indexAddr (i := i) (s := 130) E rfl rfl rfl rfl rfl rfl (by omega)) ?_; clear E a; intro a E
            rw [Nat.zero_add] at E
            refine list_pure E rfl rfl (by decide) (rn_assign E rfl rfl) ?_; clear E a; intro a E
            refine wpList_nil ?_
            refine then_k hK ?_; clear hK; clear K
            refine wp_seq_k ?_; intro K hK
            refine region_list ?_
            refine list_pure E rfl rfl (by decide) (rn_move E rfl rfl) ?_; clear E a; intro a E
            refine list_pure E rfl rfl (by decide) (rn_nilCheck E rfl rfl) ?_; clear E a; intro a E
            refine list_pure E rfl rfl (by decide) (by first | exact rn_fieldAddr0 (q := 0) E rfl rfl rfl | exact rn_fieldAddr (q := 0) E rfl rfl rfl) ?_; clear E a; intro a E
            refine list_pure E rfl rfl (by decide) (rn_loadc E rfl rfl rfl (blk_cell (S.get (show List.Perm _ ([(gw, _)] :: _) from (by repeat (first | exact pk1 | apply pick_tail)))) hc0)) ?_; clear E a; intro a E
            refine list_pure E rfl rfl (by decide) (rn_move E rfl rfl) ?_; clear E a; intro a E
            refine list_pure E rfl rfl (by decide) (rn_eql_ptrs (i := x.d) (j := d) E rfl rfl rfl rfl rfl (by decide) (hbk.imp_right fun h => ⟨(h.sub (fun _ h => by repeat (first | exact h | apply List.Mem.tail))).bk S.stab, ⟨_, _, S.get (show List.Perm _ ([(d, _)] :: _) from (by repeat (first | exact pk1 | apply pick_tail)))⟩⟩)) ?_; clear E a; intro a E
            refine list_pure E rfl rfl (by decide) (rn_move E rfl rfl) ?_; clear E a; intro a E
            refine guard_split E (t := 70) rfl (fun hb70 => ?_) (fun hb70 => ?_)
            · have hb70n := hb70; replace hb70n := Nrm.nrm hb70n
              refine list_guard_yes E rfl rfl rfl rfl hb70 rfl (by decide) (rn_move E rfl rfl) ?_; clear E a; intro a E
              refine list_guard_yes E rfl rfl rfl rfl hb70 rfl (by decide) (rn_nilCheck E rfl rfl) ?_; clear E a; intro a E
              refine list_guard_yes E rfl rfl rfl rfl hb70 rfl (by decide) (by first | exact rn_fieldAddr0 (q := 1) E rfl rfl rfl | exact rn_fieldAddr (q := 1) E rfl rfl rfl) ?_; clear E a; intro a E
              refine list_guard_yes E rfl rfl rfl rfl hb70 rfl (by decide) (rn_loadc E rfl rfl rfl (blk_cell (S.get (show List.Perm _ ([(gw, _)] :: _) from (by repeat (first | exact pk1 | apply pick_tail)))) hc1)) ?_; clear E a; intro a E
              refine list_guard_yes E rfl rfl rfl rfl hb70 rfl (by decide) (rn_move E rfl rfl) ?_; clear E a; intro a E
              refine list_guard_yes E rfl rfl rfl rfl hb70 rfl (by decide) (by first | exact rn_eql E rfl rfl rfl | exact rn_eql_ptr_nil E rfl rfl rfl rfl | exact rn_eql_bool E rfl rfl rfl rfl | exact rn_eql_string E rfl rfl rfl) ?_; clear E a; intro a E
              refine list_pure E rfl rfl (by decide) (rn_pick_yes' E rfl rfl hb70 rfl) ?_; clear E a; intro a E
              refine wpList_nil ?_
              refine then_k hK ?_; clear hK; clear K
              refine if_bool E rfl (fun hb => ?_) (fun hb => ?_)
              · replace hb := Nrm.nrm hb
                skip
                have hT1 : x.d = d ∧ x.at_ = an := by refine ⟨by simpa using hb70, ?_⟩; omega
                refine region_list ?_
                refine list_pure E rfl rfl (by decide) (rn_move E rfl rfl) ?_; clear E a; intro a E
                refine list_pure E rfl rfl (by decide) (rn_nilCheck E rfl rfl) ?_; clear E a; intro a E
                refine list_pure E rfl rfl (by decide) (by first | exact rn_fieldAddr0 (q := 2) E rfl rfl rfl | exact rn_fieldAddr (q := 2) E rfl rfl rfl) ?_; clear E a; intro a E
                refine list_pure E rfl rfl (by decide) (rn_slice_arr E rfl rfl rfl rfl (by decide)) ?_; clear E a; intro a E
                refine list_pure E rfl rfl (by decide) (rn_move E rfl rfl) ?_; clear E a; intro a E
                have S := (S.front1 (A := [(gw, _)]) (by repeat (first | exact pk1 | apply pick_tail))).cel hlay
                refine list_call E rfl rfl (by decide) rfl Try.func47 rfl (by kernel_rfl) rfl (turn_ret gw (i * 130 + 2) 128 128 65 (wl A ++ [ptr x.d, .int .i64 x.at_]) (wl B ++ r) x.b (by rw [List.length_append, hWA]; rfl) x.hb (by omega) _ mask hy3 D hD _ (show D ∈ _ from (by repeat (first | exact mm1 | assumption | apply List.Mem.tail))) _ S.hp) ?_
                rintro v83 w hT; clear E a; intro a E
                have S := (S.all hT).cel (wl_at A B (turnW x mask) r).symm
                refine wpList_nil ?_
                refine in_normal ?_
                refine then_k hK ?_; clear hK; clear K
                refine region_list ?_
                refine list_pure E rfl rfl (by decide) (rn_add E rfl rfl rfl (by first | exact wa_lit (y := 1) (by omega) | exact w_in (by omega) | exact w_inu (by omega) | exact rfl)) ?_; clear E a; intro a E
                refine list_pure E rfl rfl (by decide) (rn_move E rfl rfl) ?_; clear E a; intro a E
                refine wpList_nil ?_
                refine then_normal ?_
                have hn1 : ¬ (x.d = d ∧ x.at_ = an) ∨ (x.d = d ∧ x.at_ = an) := by by_cases h : x.d = d ∧ x.at_ = an; exact .inr h; exact .inl h
                first
                | (rw [if_pos hT1] at htk
                   have S := S.front5 (A := [(p, _)]) (by repeat (first | exact pk1 | apply pick_tail)) (B := [(gw, _)]) (by repeat (first | exact pk1 | apply pick_tail)) (C := [(d, _)]) (by repeat (first | exact pk1 | apply pick_tail)) (D := [(gp, _)]) (by repeat (first | exact pk1 | apply pick_tail)) (F := [(gn, _)]) (by repeat (first | exact pk1 | apply pick_tail))
                   exact ⟨_, by omega, i + 1, _, rfl, by omega, by rw [htk, ← hBd, List.append_assoc]; exact buf_mk (by rw [wl_len, ← hlen2, wl_len]; simp) (wl_one _) hcw1 hcw2 (by rw [← hcw3, wl_len, wl_len]; simp), S, E.keep (keep_cons rfl (keep_cons rfl (keep_cons rfl (keep_cons rfl (keep_cons rfl keep_nil)))))⟩)
                | (have hT0 : ¬ (x.d = d ∧ x.at_ = an) := by intro q; have q1 := q.1; have q2 := q.2; simp_all
                   rw [if_neg hT0] at htk
                   exact ⟨_, by omega, i + 1, _, rfl, by omega, by rw [htk, ← hBd, List.append_assoc]; exact hCx, S.front5 (A := [(p, _)]) (by repeat (first | exact pk1 | apply pick_tail)) (B := [(gw, _)]) (by repeat (first | exact pk1 | apply pick_tail)) (C := [(d, _)]) (by repeat (first | exact pk1 | apply pick_tail)) (D := [(gp, _)]) (by repeat (first | exact pk1 | apply pick_tail)) (F := [(gn, _)]) (by repeat (first | exact pk1 | apply pick_tail)), E.keep (keep_cons rfl (keep_cons rfl (keep_cons rfl (keep_cons rfl (keep_cons rfl keep_nil)))))⟩)
              · replace hb := Nrm.nrm hb
                skip
                refine wp_skip ?_
                refine in_normal ?_
                refine then_k hK ?_; clear hK; clear K
                refine region_list ?_
                refine list_pure E rfl rfl (by decide) (rn_add E rfl rfl rfl (by first | exact wa_lit (y := 1) (by omega) | exact w_in (by omega) | exact w_inu (by omega) | exact rfl)) ?_; clear E a; intro a E
                refine list_pure E rfl rfl (by decide) (rn_move E rfl rfl) ?_; clear E a; intro a E
                refine wpList_nil ?_
                refine then_normal ?_
                have hn1 : ¬ (x.d = d ∧ x.at_ = an) ∨ (x.d = d ∧ x.at_ = an) := by by_cases h : x.d = d ∧ x.at_ = an; exact .inr h; exact .inl h
                first
                | (rw [if_pos hT1] at htk
                   have S := S.front5 (A := [(p, _)]) (by repeat (first | exact pk1 | apply pick_tail)) (B := [(gw, _)]) (by repeat (first | exact pk1 | apply pick_tail)) (C := [(d, _)]) (by repeat (first | exact pk1 | apply pick_tail)) (D := [(gp, _)]) (by repeat (first | exact pk1 | apply pick_tail)) (F := [(gn, _)]) (by repeat (first | exact pk1 | apply pick_tail))
                   exact ⟨_, by omega, i + 1, _, rfl, by omega, by rw [htk, ← hBd, List.append_assoc]; exact buf_mk (by rw [wl_len, ← hlen2, wl_len]; simp) (wl_one _) hcw1 hcw2 (by rw [← hcw3, wl_len, wl_len]; simp), S, E.keep (keep_cons rfl (keep_cons rfl (keep_cons rfl (keep_cons rfl (keep_cons rfl keep_nil)))))⟩)
                | (have hT0 : ¬ (x.d = d ∧ x.at_ = an) := by intro q; have q1 := q.1; have q2 := q.2; simp_all
                   rw [if_neg hT0] at htk
                   exact ⟨_, by omega, i + 1, _, rfl, by omega, by rw [htk, ← hBd, List.append_assoc]; exact hCx, S.front5 (A := [(p, _)]) (by repeat (first | exact pk1 | apply pick_tail)) (B := [(gw, _)]) (by repeat (first | exact pk1 | apply pick_tail)) (C := [(d, _)]) (by repeat (first | exact pk1 | apply pick_tail)) (D := [(gp, _)]) (by repeat (first | exact pk1 | apply pick_tail)) (F := [(gn, _)]) (by repeat (first | exact pk1 | apply pick_tail)), E.keep (keep_cons rfl (keep_cons rfl (keep_cons rfl (keep_cons rfl (keep_cons rfl keep_nil)))))⟩)
            · have hb70n := hb70; replace hb70n := Nrm.nrm hb70n
              refine list_guard_no E rfl rfl rfl rfl hb70 rfl (by decide) ?_; clear E a; intro a E
              refine list_guard_no E rfl rfl rfl rfl hb70 rfl (by decide) ?_; clear E a; intro a E
              refine list_guard_no E rfl rfl rfl rfl hb70 rfl (by decide) ?_; clear E a; intro a E
              refine list_guard_no E rfl rfl rfl rfl hb70 rfl (by decide) ?_; clear E a; intro a E
              refine list_guard_no E rfl rfl rfl rfl hb70 rfl (by decide) ?_; clear E a; intro a E
              refine list_guard_no E rfl rfl rfl rfl hb70 rfl (by decide) ?_; clear E a; intro a E
              refine list_pure E rfl rfl (by decide) (rn_pick_no' E rfl rfl hb70 rfl) ?_; clear E a; intro a E
              refine wpList_nil ?_
              refine then_k hK ?_; clear hK; clear K
              refine if_false' E rfl rfl ?_
              refine wp_skip ?_
              refine in_normal ?_
              refine then_k hK ?_; clear hK; clear K
              refine region_list ?_
              refine list_pure E rfl rfl (by decide) (rn_add E rfl rfl rfl (by first | exact wa_lit (y := 1) (by omega) | exact w_in (by omega) | exact w_inu (by omega) | exact rfl)) ?_; clear E a; intro a E
              refine list_pure E rfl rfl (by decide) (rn_move E rfl rfl) ?_; clear E a; intro a E
              refine wpList_nil ?_
              refine then_normal ?_
              have hn1 : ¬ (x.d = d ∧ x.at_ = an) ∨ (x.d = d ∧ x.at_ = an) := by by_cases h : x.d = d ∧ x.at_ = an; exact .inr h; exact .inl h
              first
              | (rw [if_pos hT1] at htk
                 have S := S.front5 (A := [(p, _)]) (by repeat (first | exact pk1 | apply pick_tail)) (B := [(gw, _)]) (by repeat (first | exact pk1 | apply pick_tail)) (C := [(d, _)]) (by repeat (first | exact pk1 | apply pick_tail)) (D := [(gp, _)]) (by repeat (first | exact pk1 | apply pick_tail)) (F := [(gn, _)]) (by repeat (first | exact pk1 | apply pick_tail))
                 exact ⟨_, by omega, i + 1, _, rfl, by omega, by rw [htk, ← hBd, List.append_assoc]; exact buf_mk (by rw [wl_len, ← hlen2, wl_len]; simp) (wl_one _) hcw1 hcw2 (by rw [← hcw3, wl_len, wl_len]; simp), S, E.keep (keep_cons rfl (keep_cons rfl (keep_cons rfl (keep_cons rfl (keep_cons rfl keep_nil)))))⟩)
              | (have hT0 : ¬ (x.d = d ∧ x.at_ = an) := by intro q; have q1 := q.1; have q2 := q.2; simp_all
                 rw [if_neg hT0] at htk
                 exact ⟨_, by omega, i + 1, _, rfl, by omega, by rw [htk, ← hBd, List.append_assoc]; exact hCx, S.front5 (A := [(p, _)]) (by repeat (first | exact pk1 | apply pick_tail)) (B := [(gw, _)]) (by repeat (first | exact pk1 | apply pick_tail)) (C := [(d, _)]) (by repeat (first | exact pk1 | apply pick_tail)) (D := [(gp, _)]) (by repeat (first | exact pk1 | apply pick_tail)) (F := [(gn, _)]) (by repeat (first | exact pk1 | apply pick_tail)), E.keep (keep_cons rfl (keep_cons rfl (keep_cons rfl (keep_cons rfl (keep_cons rfl keep_nil)))))⟩)
          · replace hb := Nrm.nrm hb
            refine wp_exit ?_
            refine then_exit ?_; clear hK; clear K
            refine then_exit ?_
            refine in_exit ?_
            refine then_k hK ?_; clear hK; clear K
            refine wp_seq_k ?_; intro K hK
            refine region_list ?_
            refine list_pure E rfl rfl (by decide) (rn_assign E rfl rfl) ?_; clear E a; intro a E
            refine wpList_nil ?_
            refine then_k hK ?_; clear hK; clear K
            refine wp_ret ?_
            refine ret1 E rfl rfl ?_
            obtain rfl : i = ws.length := by omega
            rw [List.take_length, List.drop_length, List.append_nil] at hCx
            refine ⟨_, rfl, by rw [hE], ?_⟩
            rw [coWs, coB, coB, if_pos hE, if_pos hE, if_pos hE, Int.toNat_natCast]
            exact ⟨Cx, hCx, S.tr⟩
end Go.Proofs.Ytpppaohhnlgfoaa
