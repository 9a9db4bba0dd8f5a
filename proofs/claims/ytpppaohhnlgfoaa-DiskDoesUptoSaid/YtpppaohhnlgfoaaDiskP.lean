/-
  Disks and their power, plain; the program's small functions.
-/
import Derived.Test.YtpppaohhnlgfoaaMore7
import Derived.Test.YtpppaohhnlgfoaaEnd
namespace Go.Sl
/-- A write that waits. -/
structure Wt where
  d : Nat
  at_ : Nat
  b : List UInt8
  hb : b.length = 128
def Wt.lay (x : Wt) : List Value := [ptr x.d, .int .i64 x.at_] ++ byt x.b
theorem Wt.lay_len (x : Wt) : x.lay.length = 130 := by simp [Wt.lay, byt_length, x.hb]
theorem Wt.lay_one (x : Wt) : ∀ u ∈ x.lay, u.oneCell' = true := fun u hu => by
  rcases List.mem_append.1 hu with h | h
  · simp at h; rcases h with rfl | rfl <;> rfl
  · exact byt_one _ u h
/-- A sector of bytes, and bytes with a sector put in. -/
def secB (b : List UInt8) (i : Nat) : List UInt8 := (b.drop (128 * i)).take 128
def setS (l : List UInt8) (i : Nat) (b : List UInt8) : List UInt8 := l.take (128 * i) ++ b ++ l.drop (128 * i + 128)
theorem secB_length {b : List UInt8} {i : Nat} (h : 128 * i + 128 ≤ b.length) : (secB b i).length = 128 := by rw [secB, List.length_take, List.length_drop]; omega
theorem setS_length {l b : List UInt8} {i : Nat} (h : 128 * i + 128 ≤ l.length) (hb : b.length = 128) : (setS l i b).length = l.length := by
  simp only [setS, List.length_append, List.length_take, List.length_drop]; omega
theorem byt_setS (l b : List UInt8) (i : Nat) (hb : b.length = 128) : (byt l).take (128 * i) ++ byt b ++ (byt l).drop (128 * i + 128) = byt (setS l i b) := by
  rw [setS, byt_append, byt_append, byt_take, byt_drop]
/-- The power's own state. -/
structure Pw where
  left : Int
  off : Bool
  wr : Nat
/-- Just a sector of bytes. -/
def pad (b : List UInt8) : List UInt8 := (b ++ List.replicate 128 0).take 128
theorem pad_length (b : List UInt8) : (pad b).length = 128 := by simp [pad]
theorem pad_id {b : List UInt8} (h : b.length = 128) : pad b = b := by rw [pad, List.take_left' h]
def mkW (d at_ : Nat) (b : List UInt8) : Wt := ⟨d, at_, pad b, pad_length b⟩
/-- Writing so many sectors, from one on: the power, what is seen, what waits, the error. -/
def wrN (d at_ : Nat) (b : List UInt8) : Nat → Nat → Pw → List UInt8 → List Wt → Pw × List UInt8 × List Wt × Int
  | 0, _, s, nw, ws => (s, nw, ws, 0)
  | k + 1, i, s, nw, ws => if s.left = 0 then ({ s with left := -1, off := true }, nw, ws, 5) else
      wrN d at_ b k (i + 1) { s with left := if 0 < s.left then s.left - 1 else s.left, wr := s.wr + 1 } (setS nw (at_ + i) (secB b i)) (ws ++ [mkW d (at_ + i) (secB b i)])
/-- May so many bytes be written from a sector on? -/
def wrMay (n : Nat) (at_ : Int) (b : List UInt8) : Prop := b.length % 128 = 0 ∧ 0 ≤ at_ ∧ at_ ≤ (n / 128 : Nat) ∧ ((b.length / 128 : Nat) : Int) ≤ (n / 128 : Nat) - at_
instance (n : Nat) (at_ : Int) (b : List UInt8) : Decidable (wrMay n at_ b) := by unfold wrMay; infer_instance
def wrS (d n : Nat) (at_ : Int) (b : List UInt8) (s : Pw) (f : Bool) (nw : List UInt8) (ws : List Wt) : Pw × List UInt8 × List Wt × Int :=
  if s.off then (s, nw, ws, 5) else if f then (s, nw, ws, 30) else if ¬ wrMay n at_ b then (s, nw, ws, 1) else wrN d at_.toNat b (b.length / 128) 0 s nw ws
end Go.Sl
namespace Go.Proofs.Ytpppaohhnlgfoaa
open Go.Sl
set_option maxRecDepth 10000
/-- The power's block, a disk's. -/
abbrev pcl (s : Pw) (vw vd : Value) : Obj := cel [vw, .int .i64 s.left, .bool s.off, .int .i64 s.wr, vd] 59
abbrev dcl (p gp gn n : Nat) (f : Bool) : Obj := cel [ptr p, .slice (some ⟨gp, 0, none⟩) n n, .slice (some ⟨gn, 0, none⟩) n n, .bool f] 61

theorem newpower_ret (w0 : World) : Ret Try.prog 8 #[] w0 fun u w' => ∃ p, u = ptr p ∧ Trs w0 w' [] [[(p, pcl ⟨-1, false, 0⟩ (.slice none 0 0) (.slice none 0 0))]] := by
  have S := St.begin (hp_nil w0)
  refine enter0 3 Try.func8 rfl rfl ?_; intro a E
  refine wp_seq_k ?_; intro K hK
  refine region_list ?_
  refine list_pure E rfl rfl (by decide) (rn_assign E rfl rfl) ?_; clear E a; intro a E
  refine wpList_nil ?_
  refine then_k hK ?_; clear hK; clear K
  refine wp_seq_k ?_; intro K hK
  refine region_list ?_
  refine list_pure E rfl rfl (by decide) (rn_build (cells := [_, _, _, _, _]) E rfl rfl rfl) ?_; clear E a; intro a E
  refine list_wp rfl (wp_box E S rfl rfl (by decide) rfl rfl ?_); clear E S a; intro a w b2 E S
  refine list_pure E rfl rfl (by decide) (rn_assign E rfl rfl) ?_; clear E a; intro a E
  refine wpList_nil ?_
  refine then_k hK ?_; clear hK; clear K
  refine wp_ret ?_
  refine ret1 E rfl rfl ?_
  exact ⟨_, rfl, b2, rfl, S.tr⟩

theorem sectors_ret (d p gp gn n : Nat) (f : Bool) (hn : n ≤ 1048576) (w0 : World) (H : Hp w0 [[(d, dcl p gp gn n f)]]) : Ret Try.prog 25 #[ptr d] w0 fun u w' => u = .int .i64 (n / 128 : Nat) ∧ Trs w0 w' [[(d, dcl p gp gn n f)]] [[(d, dcl p gp gn n f)]] := by
  have S := St.begin H
  refine enter1 9 Try.func25 rfl rfl (by decide) ?_; intro a E
  refine wp_seq_k ?_; intro K hK
  refine region_list ?_
  refine list_pure E rfl rfl (by decide) (rn_assign E rfl rfl) ?_; clear E a; intro a E
  refine wpList_nil ?_
  refine then_k hK ?_; clear hK; clear K
  refine wp_seq_k ?_; intro K hK
  refine region_list ?_
  refine list_pure E rfl rfl (by decide) (rn_move E rfl rfl) ?_; clear E a; intro a E
  refine list_pure E rfl rfl (by decide) (rn_nilCheck E rfl rfl) ?_; clear E a; intro a E
  refine list_pure E rfl rfl (by decide) (by first | exact rn_fieldAddr0 (q := 1) E rfl rfl rfl | exact rn_fieldAddr (q := 1) E rfl rfl rfl) ?_; clear E a; intro a E
  refine list_pure E rfl rfl (by decide) (by first | exact rn_load E rfl rfl rfl (S.get (by repeat (first | exact pk1 | apply pick_tail))) rfl | exact rn_loadc E rfl rfl rfl (by assumption)) ?_; clear E a; intro a E
  refine list_pure E rfl rfl (by decide) (by first | exact rn_len E rfl rfl rfl | exact rn_len_str E rfl rfl rfl | exact rn_len_string E rfl rfl rfl) ?_; clear E a; intro a E
  refine list_pure E rfl rfl (by decide) (rn_quo E rfl rfl rfl (by decide) (by first | exact wq_lit (y := 128) (by omega) | exact wq_litu (y := 128) (by omega) | exact rfl)) ?_; clear E a; intro a E
  refine list_pure E rfl rfl (by decide) (rn_assign E rfl rfl) ?_; clear E a; intro a E
  refine wpList_nil ?_
  refine then_k hK ?_; clear hK; clear K
  refine wp_ret ?_
  refine ret1 E rfl rfl ?_
  exact ⟨_, rfl, rfl, S.tr⟩

theorem down_ret (d p gp gn n : Nat) (f : Bool) (s : Pw) (vw vd : Value) (w0 : World) (H : Hp w0 [[(p, pcl s vw vd)], [(d, dcl p gp gn n f)]]) :
    Ret Try.prog 28 #[ptr d] w0 fun u w' => u = .int .i64 (if s.off then 5 else if f then 30 else 0) ∧ Trs w0 w' [[(p, pcl s vw vd)], [(d, dcl p gp gn n f)]] [[(p, pcl s vw vd)], [(d, dcl p gp gn n f)]] := by
  have S := St.begin H
  refine enter1 16 Try.func28 rfl rfl (by decide) ?_; intro a E
  refine wp_seq_k ?_; intro K hK
  refine region_list ?_
  refine list_pure E rfl rfl (by decide) (rn_assign E rfl rfl) ?_; clear E a; intro a E
  refine wpList_nil ?_
  refine then_k hK ?_; clear hK; clear K
  refine wp_seq_k ?_; intro K hK
  refine wp_block ?_
  refine wp_seq_k ?_; intro K hK
  refine region_list ?_
  refine list_pure E rfl rfl (by decide) (rn_move E rfl rfl) ?_; clear E a; intro a E
  refine list_pure E rfl rfl (by decide) (rn_nilCheck E rfl rfl) ?_; clear E a; intro a E
  refine list_pure E rfl rfl (by decide) (by first | exact rn_fieldAddr0 (q := 0) E rfl rfl rfl | exact rn_fieldAddr (q := 0) E rfl rfl rfl) ?_; clear E a; intro a E
  refine list_pure E rfl rfl (by decide) (by first | exact rn_load E rfl rfl rfl (S.get (by repeat (first | exact pk1 | apply pick_tail))) rfl | exact rn_loadc E rfl rfl rfl (by assumption)) ?_; clear E a; intro a E
  refine list_pure E rfl rfl (by decide) (rn_nilCheck E rfl rfl) ?_; clear E a; intro a E
  refine list_pure E rfl rfl (by decide) (by first | exact rn_fieldAddr0 (q := 2) E rfl rfl rfl | exact rn_fieldAddr (q := 2) E rfl rfl rfl) ?_; clear E a; intro a E
  refine list_pure E rfl rfl (by decide) (by first | exact rn_load E rfl rfl rfl (S.get (by repeat (first | exact pk1 | apply pick_tail))) rfl | exact rn_loadc E rfl rfl rfl (by assumption)) ?_; clear E a; intro a E
  refine list_pure E rfl rfl (by decide) (rn_assign E rfl rfl) ?_; clear E a; intro a E
  refine wpList_nil ?_
  refine then_k hK ?_; clear hK; clear K
  refine if_bool E rfl (fun hb => ?_) (fun hb => ?_)
  · replace hb := Nrm.nrm hb
    refine wp_seq_k ?_; intro K hK
    refine region_list ?_
    refine list_pure E rfl rfl (by decide) (rn_assign E rfl rfl) ?_; clear E a; intro a E
    refine wpList_nil ?_
    refine then_k hK ?_; clear hK; clear K
    refine wp_ret ?_
    refine in_ret ?_
    refine then_ret ?_; clear hK; clear K
    refine ret1 E rfl rfl ?_
    exact ⟨_, rfl, by simp [*], S.tr⟩
  · replace hb := Nrm.nrm hb
    refine wp_seq_k ?_; intro K hK
    refine region_list ?_
    refine list_pure E rfl rfl (by decide) (rn_move E rfl rfl) ?_; clear E a; intro a E
    refine list_pure E rfl rfl (by decide) (rn_nilCheck E rfl rfl) ?_; clear E a; intro a E
    refine list_pure E rfl rfl (by decide) (by first | exact rn_fieldAddr0 (q := 3) E rfl rfl rfl | exact rn_fieldAddr (q := 3) E rfl rfl rfl) ?_; clear E a; intro a E
    refine list_pure E rfl rfl (by decide) (by first | exact rn_load E rfl rfl rfl (S.get (by repeat (first | exact pk1 | apply pick_tail))) rfl | exact rn_loadc E rfl rfl rfl (by assumption)) ?_; clear E a; intro a E
    refine list_pure E rfl rfl (by decide) (rn_assign E rfl rfl) ?_; clear E a; intro a E
    refine wpList_nil ?_
    refine then_k hK ?_; clear hK; clear K
    refine if_bool E rfl (fun hb => ?_) (fun hb => ?_)
    · replace hb := Nrm.nrm hb
      refine wp_seq_k ?_; intro K hK
      refine region_list ?_
      refine list_pure E rfl rfl (by decide) (rn_assign E rfl rfl) ?_; clear E a; intro a E
      refine wpList_nil ?_
      refine then_k hK ?_; clear hK; clear K
      refine wp_ret ?_
      refine in_ret ?_
      refine then_ret ?_; clear hK; clear K
      refine ret1 E rfl rfl ?_
      exact ⟨_, rfl, by simp [*], S.tr⟩
    · replace hb := Nrm.nrm hb
      refine wp_skip ?_
      refine in_normal ?_
      refine then_k hK ?_; clear hK; clear K
      refine wp_seq_k ?_; intro K hK
      refine region_list ?_
      refine list_pure E rfl rfl (by decide) (rn_assign E rfl rfl) ?_; clear E a; intro a E
      refine wpList_nil ?_
      refine then_k hK ?_; clear hK; clear K
      refine wp_ret ?_
      refine ret1 E rfl rfl ?_
      exact ⟨_, rfl, by simp [*], S.tr⟩

theorem has_ret (d p gp gn n : Nat) (f : Bool) (at_ many : Int) (hn : n ≤ 1048576) (ha : -9223372036854775808 ≤ at_ ∧ at_ ≤ 9223372036854775807) (w0 : World) (H : Hp w0 [[(d, dcl p gp gn n f)]]) :
    Ret Try.prog 29 #[ptr d, .int .i64 at_, .int .i64 many] w0 fun u w' => u = .bool (decide (0 ≤ at_ ∧ 0 ≤ many ∧ at_ ≤ (n / 128 : Nat) ∧ many ≤ (n / 128 : Nat) - at_)) ∧ Trs w0 w' [[(d, dcl p gp gn n f)]] [[(d, dcl p gp gn n f)]] := by
  have S := St.begin H
  refine enter3 27 Try.func29 rfl rfl (by decide) ?_; intro a E
  refine wp_seq_k ?_; intro K hK
  refine region_list ?_
  refine list_pure E rfl rfl (by decide) (rn_assign E rfl rfl) ?_; clear E a; intro a E
  refine wpList_nil ?_
  refine then_k hK ?_; clear hK; clear K
  refine wp_seq_k ?_; intro K hK
  refine region_list ?_
  refine list_pure E rfl rfl (by decide) (rn_move E rfl rfl) ?_; clear E a; intro a E
  refine list_pure E rfl rfl (by decide) (rn_geq E rfl rfl rfl) ?_; clear E a; intro a E
  refine list_pure E rfl rfl (by decide) (rn_move E rfl rfl) ?_; clear E a; intro a E
  refine guard_split E (t := 9) rfl (fun hb9 => ?_) (fun hb9 => ?_)
  · have hb9n := hb9; replace hb9n := Nrm.nrm hb9n
    refine list_guard_yes E rfl rfl rfl rfl hb9 rfl (by decide) (rn_move E rfl rfl) ?_; clear E a; intro a E
    refine list_guard_yes E rfl rfl rfl rfl hb9 rfl (by decide) (rn_geq E rfl rfl rfl) ?_; clear E a; intro a E
    refine list_pure E rfl rfl (by decide) (rn_pick_yes' E rfl rfl hb9 rfl) ?_; clear E a; intro a E
    refine list_pure E rfl rfl (by decide) (rn_move E rfl rfl) ?_; clear E a; intro a E
    refine guard_split E (t := 13) rfl (fun hb13 => ?_) (fun hb13 => ?_)
    · have hb13n := hb13; replace hb13n := Nrm.nrm hb13n
      refine list_guard_yes E rfl rfl rfl rfl hb13 rfl (by decide) (rn_move E rfl rfl) ?_; clear E a; intro a E
      refine list_guard_yes E rfl rfl rfl rfl hb13 rfl (by decide) (rn_move E rfl rfl) ?_; clear E a; intro a E
      refine list_guard_wp E rfl rfl rfl rfl hb13 ?_; refine wp_call' E rfl (by decide) rfl Try.func25 rfl (by kernel_rfl) rfl (sectors_ret d p gp gn n f hn _ (S.hp.sel (sel_cons (by repeat (first | exact pk1 | apply pick_tail)) (sel_nil _)))) ?_
      rintro v16 w ⟨rfl, hT⟩; clear E a; intro a E
      have S := S.call1 (sel_cons (by repeat (first | exact pk1 | apply pick_tail)) (sel_nil _)) hT
      refine list_guard_yes E rfl rfl rfl rfl hb13 rfl (by decide) (rn_leq E rfl rfl rfl) ?_; clear E a; intro a E
      refine list_pure E rfl rfl (by decide) (rn_pick_yes' E rfl rfl hb13 rfl) ?_; clear E a; intro a E
      refine list_pure E rfl rfl (by decide) (rn_move E rfl rfl) ?_; clear E a; intro a E
      refine guard_split E (t := 19) rfl (fun hb19 => ?_) (fun hb19 => ?_)
      · have hb19n := hb19; replace hb19n := Nrm.nrm hb19n
        refine list_guard_yes E rfl rfl rfl rfl hb19 rfl (by decide) (rn_move E rfl rfl) ?_; clear E a; intro a E
        refine list_guard_yes E rfl rfl rfl rfl hb19 rfl (by decide) (rn_move E rfl rfl) ?_; clear E a; intro a E
        refine list_guard_wp E rfl rfl rfl rfl hb19 ?_; refine wp_call' E rfl (by decide) rfl Try.func25 rfl (by kernel_rfl) rfl (sectors_ret d p gp gn n f hn _ (S.hp.sel (sel_cons (by repeat (first | exact pk1 | apply pick_tail)) (sel_nil _)))) ?_
        rintro v22 w ⟨rfl, hT⟩; clear E a; intro a E
        have S := S.call1 (sel_cons (by repeat (first | exact pk1 | apply pick_tail)) (sel_nil _)) hT
        refine list_guard_yes E rfl rfl rfl rfl hb19 rfl (by decide) (rn_move E rfl rfl) ?_; clear E a; intro a E
        refine list_guard_yes E rfl rfl rfl rfl hb19 rfl (by decide) (rn_sub E rfl rfl rfl (by first | exact ws1 (by omega) (by omega) | exact w_in (by omega) | exact w_inu (by omega) | exact rfl)) ?_; clear E a; intro a E
        refine list_guard_yes E rfl rfl rfl rfl hb19 rfl (by decide) (rn_leq E rfl rfl rfl) ?_; clear E a; intro a E
        refine list_pure E rfl rfl (by decide) (rn_pick_yes' E rfl rfl hb19 rfl) ?_; clear E a; intro a E
        refine list_pure E rfl rfl (by decide) (rn_assign E rfl rfl) ?_; clear E a; intro a E
        refine wpList_nil ?_
        refine then_k hK ?_; clear hK; clear K
        refine wp_ret ?_
        refine ret1 E rfl rfl ?_
        exact ⟨_, rfl, by congr 1; rw [Bool.eq_iff_iff]; simp <;> omega, S.tr⟩
      · have hb19n := hb19; replace hb19n := Nrm.nrm hb19n
        refine list_guard_no E rfl rfl rfl rfl hb19 rfl (by decide) ?_; clear E a; intro a E
        refine list_guard_no E rfl rfl rfl rfl hb19 rfl (by decide) ?_; clear E a; intro a E
        refine list_guard_no E rfl rfl rfl rfl hb19 rfl (by decide) ?_; clear E a; intro a E
        refine list_guard_no E rfl rfl rfl rfl hb19 rfl (by decide) ?_; clear E a; intro a E
        refine list_guard_no E rfl rfl rfl rfl hb19 rfl (by decide) ?_; clear E a; intro a E
        refine list_guard_no E rfl rfl rfl rfl hb19 rfl (by decide) ?_; clear E a; intro a E
        refine list_pure E rfl rfl (by decide) (rn_pick_no' E rfl rfl hb19 rfl) ?_; clear E a; intro a E
        refine list_pure E rfl rfl (by decide) (rn_assign E rfl rfl) ?_; clear E a; intro a E
        refine wpList_nil ?_
        refine then_k hK ?_; clear hK; clear K
        refine wp_ret ?_
        refine ret1 E rfl rfl ?_
        exact ⟨_, rfl, by congr 1; rw [Bool.eq_iff_iff]; simp <;> omega, S.tr⟩
    · have hb13n := hb13; replace hb13n := Nrm.nrm hb13n
      refine list_guard_no E rfl rfl rfl rfl hb13 rfl (by decide) ?_; clear E a; intro a E
      refine list_guard_no E rfl rfl rfl rfl hb13 rfl (by decide) ?_; clear E a; intro a E
      refine list_guard_no E rfl rfl rfl rfl hb13 rfl (by decide) ?_; clear E a; intro a E
      refine list_guard_no E rfl rfl rfl rfl hb13 rfl (by decide) ?_; clear E a; intro a E
      refine list_pure E rfl rfl (by decide) (rn_pick_no' E rfl rfl hb13 rfl) ?_; clear E a; intro a E
      refine list_pure E rfl rfl (by decide) (rn_move E rfl rfl) ?_; clear E a; intro a E
      refine list_guard_no E rfl rfl rfl rfl rfl rfl (by decide) ?_; clear E a; intro a E
      refine list_guard_no E rfl rfl rfl rfl rfl rfl (by decide) ?_; clear E a; intro a E
      refine list_guard_no E rfl rfl rfl rfl rfl rfl (by decide) ?_; clear E a; intro a E
      refine list_guard_no E rfl rfl rfl rfl rfl rfl (by decide) ?_; clear E a; intro a E
      refine list_guard_no E rfl rfl rfl rfl rfl rfl (by decide) ?_; clear E a; intro a E
      refine list_guard_no E rfl rfl rfl rfl rfl rfl (by decide) ?_; clear E a; intro a E
      refine list_pure E rfl rfl (by decide) (rn_pick_no' E rfl rfl rfl rfl) ?_; clear E a; intro a E
      refine list_pure E rfl rfl (by decide) (rn_assign E rfl rfl) ?_; clear E a; intro a E
      refine wpList_nil ?_
      refine then_k hK ?_; clear hK; clear K
      refine wp_ret ?_
      refine ret1 E rfl rfl ?_
      exact ⟨_, rfl, by congr 1; rw [Bool.eq_iff_iff]; simp <;> omega, S.tr⟩
  · have hb9n := hb9; replace hb9n := Nrm.nrm hb9n
    refine list_guard_no E rfl rfl rfl rfl hb9 rfl (by decide) ?_; clear E a; intro a E
    refine list_guard_no E rfl rfl rfl rfl hb9 rfl (by decide) ?_; clear E a; intro a E
    refine list_pure E rfl rfl (by decide) (rn_pick_no' E rfl rfl hb9 rfl) ?_; clear E a; intro a E
    refine list_pure E rfl rfl (by decide) (rn_move E rfl rfl) ?_; clear E a; intro a E
    refine list_guard_no E rfl rfl rfl rfl rfl rfl (by decide) ?_; clear E a; intro a E
    refine list_guard_no E rfl rfl rfl rfl rfl rfl (by decide) ?_; clear E a; intro a E
    refine list_guard_no E rfl rfl rfl rfl rfl rfl (by decide) ?_; clear E a; intro a E
    refine list_guard_no E rfl rfl rfl rfl rfl rfl (by decide) ?_; clear E a; intro a E
    refine list_pure E rfl rfl (by decide) (rn_pick_no' E rfl rfl rfl rfl) ?_; clear E a; intro a E
    refine list_pure E rfl rfl (by decide) (rn_move E rfl rfl) ?_; clear E a; intro a E
    refine list_guard_no E rfl rfl rfl rfl rfl rfl (by decide) ?_; clear E a; intro a E
    refine list_guard_no E rfl rfl rfl rfl rfl rfl (by decide) ?_; clear E a; intro a E
    refine list_guard_no E rfl rfl rfl rfl rfl rfl (by decide) ?_; clear E a; intro a E
    refine list_guard_no E rfl rfl rfl rfl rfl rfl (by decide) ?_; clear E a; intro a E
    refine list_guard_no E rfl rfl rfl rfl rfl rfl (by decide) ?_; clear E a; intro a E
    refine list_guard_no E rfl rfl rfl rfl rfl rfl (by decide) ?_; clear E a; intro a E
    refine list_pure E rfl rfl (by decide) (rn_pick_no' E rfl rfl rfl rfl) ?_; clear E a; intro a E
    refine list_pure E rfl rfl (by decide) (rn_assign E rfl rfl) ?_; clear E a; intro a E
    refine wpList_nil ?_
    refine then_k hK ?_; clear hK; clear K
    refine wp_ret ?_
    refine ret1 E rfl rfl ?_
    exact ⟨_, rfl, by congr 1; rw [Bool.eq_iff_iff]; simp <;> omega, S.tr⟩

theorem dsector_ret (x : Value) (g n i : Nat) (hi : 128 * i + 128 ≤ n) (hn : n ≤ 1048576) (w0 : World) : Ret Try.prog 30 #[x, .slice (some ⟨g, 0, none⟩) n n, .int .i64 i] w0 fun u w' => u = .slice (some ⟨g, 128 * i, none⟩) 128 (n - 128 * i) ∧ Trs w0 w' [] [] := by
  have S := St.begin (hp_nil w0)
  refine enter3 14 Try.func30 rfl rfl (by decide) ?_; intro a E
  refine wp_seq_k ?_; intro K hK
  refine region_list ?_
  refine list_pure E rfl rfl (by decide) (rn_assign E rfl rfl) ?_; clear E a; intro a E
  refine wpList_nil ?_
  refine then_k hK ?_; clear hK; clear K
  refine wp_seq_k ?_; intro K hK
  refine region_list ?_
  refine list_pure E rfl rfl (by decide) (rn_move E rfl rfl) ?_; clear E a; intro a E
  refine list_pure E rfl rfl (by decide) (rn_move E rfl rfl) ?_; clear E a; intro a E
  refine list_pure E rfl rfl (by decide) (rn_mul E rfl rfl rfl (by first | exact wm_lit2 (y := 128) (by omega) | exact w_in (by omega) | exact rfl)) ?_; clear E a; intro a E
  refine list_pure E rfl rfl (by decide) (rn_move E rfl rfl) ?_; clear E a; intro a E
  refine list_pure E rfl rfl (by decide) (rn_add E rfl rfl rfl (by first | exact wa_lit (y := 1) (by omega) | exact w_in (by omega) | exact w_inu (by omega) | exact rfl)) ?_; clear E a; intro a E
  refine list_pure E rfl rfl (by decide) (rn_mul E rfl rfl rfl (by first | exact wm_lit2 (y := 128) (by omega) | exact w_in (by omega) | exact rfl)) ?_; clear E a; intro a E
  refine list_pure E rfl rfl (by decide) (rn_slice_lh (s := 1) (lo := 128 * i) (hi := 128 * i + 128) E rfl rfl rfl rfl rfl rfl (by omega) (by omega) (by omega) (by omega)) ?_; clear E a; intro a E
  rw [sliced_at (by omega), Nat.add_sub_cancel_left] at E
  refine list_pure E rfl rfl (by decide) (rn_assign E rfl rfl) ?_; clear E a; intro a E
  refine wpList_nil ?_
  refine then_k hK ?_; clear hK; clear K
  refine wp_ret ?_
  refine ret1 E rfl rfl ?_
  exact ⟨_, rfl, rfl, (S.only (Bs := []) (sel_nil _)).tr⟩

theorem waiting_ret (p : Nat) (s : Pw) (ad : Option Addr) (k c : Nat) (vd : Value) (w0 : World) (H : Hp w0 [[(p, pcl s (.slice ad k c) vd)]]) : Ret Try.prog 13 #[ptr p] w0 fun u w' => u = .int .i64 k ∧ Trs w0 w' [[(p, pcl s (.slice ad k c) vd)]] [[(p, pcl s (.slice ad k c) vd)]] := by
  have S := St.begin H
  refine enter1 8 Try.func13 rfl rfl (by decide) ?_; intro a E
  refine wp_seq_k ?_; intro K hK
  refine region_list ?_
  refine list_pure E rfl rfl (by decide) (rn_assign E rfl rfl) ?_; clear E a; intro a E
  refine wpList_nil ?_
  refine then_k hK ?_; clear hK; clear K
  refine wp_seq_k ?_; intro K hK
  refine region_list ?_
  refine list_pure E rfl rfl (by decide) (rn_move E rfl rfl) ?_; clear E a; intro a E
  refine list_pure E rfl rfl (by decide) (rn_nilCheck E rfl rfl) ?_; clear E a; intro a E
  refine list_pure E rfl rfl (by decide) (by first | exact rn_fieldAddr0 (q := 0) E rfl rfl rfl | exact rn_fieldAddr (q := 0) E rfl rfl rfl) ?_; clear E a; intro a E
  refine list_pure E rfl rfl (by decide) (by first | exact rn_load E rfl rfl rfl (S.get (by repeat (first | exact pk1 | apply pick_tail))) rfl | exact rn_loadc E rfl rfl rfl (by assumption)) ?_; clear E a; intro a E
  refine list_pure E rfl rfl (by decide) (by first | exact rn_len E rfl rfl rfl | exact rn_len_str E rfl rfl rfl | exact rn_len_string E rfl rfl rfl) ?_; clear E a; intro a E
  refine list_pure E rfl rfl (by decide) (rn_assign E rfl rfl) ?_; clear E a; intro a E
  refine wpList_nil ?_
  refine then_k hK ?_; clear hK; clear K
  refine wp_ret ?_
  refine ret1 E rfl rfl ?_
  exact ⟨_, rfl, rfl, S.tr⟩
theorem on_ret (p : Nat) (s : Pw) (vw vd : Value) (w0 : World) (H : Hp w0 [[(p, pcl s vw vd)]]) : Ret Try.prog 15 #[ptr p] w0 fun u w' => u = .bool (!s.off) ∧ Trs w0 w' [[(p, pcl s vw vd)]] [[(p, pcl s vw vd)]] := by
  have S := St.begin H
  refine enter1 8 Try.func15 rfl rfl (by decide) ?_; intro a E
  refine wp_seq_k ?_; intro K hK
  refine region_list ?_
  refine list_pure E rfl rfl (by decide) (rn_assign E rfl rfl) ?_; clear E a; intro a E
  refine wpList_nil ?_
  refine then_k hK ?_; clear hK; clear K
  refine wp_seq_k ?_; intro K hK
  refine region_list ?_
  refine list_pure E rfl rfl (by decide) (rn_move E rfl rfl) ?_; clear E a; intro a E
  refine list_pure E rfl rfl (by decide) (rn_nilCheck E rfl rfl) ?_; clear E a; intro a E
  refine list_pure E rfl rfl (by decide) (by first | exact rn_fieldAddr0 (q := 2) E rfl rfl rfl | exact rn_fieldAddr (q := 2) E rfl rfl rfl) ?_; clear E a; intro a E
  refine list_pure E rfl rfl (by decide) (by first | exact rn_load E rfl rfl rfl (S.get (by repeat (first | exact pk1 | apply pick_tail))) rfl | exact rn_loadc E rfl rfl rfl (by assumption)) ?_; clear E a; intro a E
  refine list_pure E rfl rfl (by decide) (rn_not E rfl rfl) ?_; clear E a; intro a E
  refine list_pure E rfl rfl (by decide) (rn_assign E rfl rfl) ?_; clear E a; intro a E
  refine wpList_nil ?_
  refine then_k hK ?_; clear hK; clear K
  refine wp_ret ?_
  refine ret1 E rfl rfl ?_
  exact ⟨_, rfl, rfl, S.tr⟩
theorem writes_ret (p : Nat) (s : Pw) (vw vd : Value) (w0 : World) (H : Hp w0 [[(p, pcl s vw vd)]]) : Ret Try.prog 18 #[ptr p] w0 fun u w' => u = .int .i64 s.wr ∧ Trs w0 w' [[(p, pcl s vw vd)]] [[(p, pcl s vw vd)]] := by
  have S := St.begin H
  refine enter1 7 Try.func18 rfl rfl (by decide) ?_; intro a E
  refine wp_seq_k ?_; intro K hK
  refine region_list ?_
  refine list_pure E rfl rfl (by decide) (rn_assign E rfl rfl) ?_; clear E a; intro a E
  refine wpList_nil ?_
  refine then_k hK ?_; clear hK; clear K
  refine wp_seq_k ?_; intro K hK
  refine region_list ?_
  refine list_pure E rfl rfl (by decide) (rn_move E rfl rfl) ?_; clear E a; intro a E
  refine list_pure E rfl rfl (by decide) (rn_nilCheck E rfl rfl) ?_; clear E a; intro a E
  refine list_pure E rfl rfl (by decide) (by first | exact rn_fieldAddr0 (q := 3) E rfl rfl rfl | exact rn_fieldAddr (q := 3) E rfl rfl rfl) ?_; clear E a; intro a E
  refine list_pure E rfl rfl (by decide) (by first | exact rn_load E rfl rfl rfl (S.get (by repeat (first | exact pk1 | apply pick_tail))) rfl | exact rn_loadc E rfl rfl rfl (by assumption)) ?_; clear E a; intro a E
  refine list_pure E rfl rfl (by decide) (rn_assign E rfl rfl) ?_; clear E a; intro a E
  refine wpList_nil ?_
  refine then_k hK ?_; clear hK; clear K
  refine wp_ret ?_
  refine ret1 E rfl rfl ?_
  exact ⟨_, rfl, rfl, S.tr⟩
theorem cut_ret (p : Nat) (s : Pw) (vw vd : Value) (k : Int) (w0 : World) (H : Hp w0 [[(p, pcl s vw vd)]]) : Ret Try.prog 17 #[ptr p, .int .i64 k] w0 fun _ w' => Trs w0 w' [[(p, pcl s vw vd)]] [[(p, pcl { s with left := max (-1) k } vw vd)]] := by
  have S := St.begin H
  refine enter2 9 Try.func17 rfl rfl (by decide) ?_; intro a E
  refine region_list ?_
  refine list_pure E rfl rfl (by decide) (rn_move E rfl rfl) ?_; clear E a; intro a E
  refine list_pure E rfl rfl (by decide) (rn_move E rfl rfl) ?_; clear E a; intro a E
  refine list_pure E rfl rfl (by decide) (rn_max E rfl rfl rfl) ?_; clear E a; intro a E
  refine list_pure E rfl rfl (by decide) (rn_nilCheck E rfl rfl) ?_; clear E a; intro a E
  refine list_pure E rfl rfl (by decide) (by first | exact rn_fieldAddr0 (q := 1) E rfl rfl rfl | exact rn_fieldAddr (q := 1) E rfl rfl rfl) ?_; clear E a; intro a E
  refine list_wp rfl (wp_store1 E S rfl rfl rfl rfl rfl rfl (by repeat (first | exact pk1 | apply pick_tail)) (by first | exact Nat.le_of_ble_eq_true rfl | (simp; done) | (simp; omega)) ?_); clear E S a; intro a w E S; try dsimp only [List.set] at S
  refine wpList_nil ?_
  refine end0 E rfl ?_
  exact ⟨_, rfl, S.tr⟩

theorem full_ret (x : UInt8) (w0 : World) : Ret Try.prog 27 #[.int .u8 x.toNat] w0 fun u w' => ∃ g, u = .slice (some ⟨g, 0, none⟩) 128 128 ∧ Trs w0 w' [] [[(g, cel (byt (List.replicate 128 x)) 5)]] := by
  have S := St.begin (hp_nil w0)
  refine enter1 17 Try.func27 rfl rfl (by decide) ?_; intro a E
  refine wp_seq_k ?_; intro K hK
  refine region_list ?_
  refine list_pure E rfl rfl (by decide) (rn_assign E rfl rfl) ?_; clear E a; intro a E
  refine wpList_nil ?_
  refine then_k hK ?_; clear hK; clear K
  refine wp_seq_k ?_; intro K hK
  refine region_list ?_
  refine list_wp rfl (wp_make1 (by' := 1) E S rfl rfl (by decide) rfl rfl rfl rfl rfl rfl rfl rfl rfl rfl rfl (by decide) (by decide) ?_); clear E S a; intro a w g5 E S
  refine list_pure E rfl rfl (by decide) (rn_assign E rfl rfl) ?_; clear E a; intro a E
  refine wpList_nil ?_
  refine then_k hK ?_; clear hK; clear K
  refine wp_seq_k ?_; intro K hK
  refine wp_seq_k ?_; intro K hK
  refine region_list ?_
  refine list_pure E rfl rfl (by decide) (rn_assign E rfl rfl) ?_; clear E a; intro a E
  refine wpList_nil ?_
  refine then_k hK ?_; clear hK; clear K
  refine wp_block ?_
  refine wp_loop_ghost (fun (m : Nat) (a : Act) (w' : World) => ∃ (i : Nat) (l : List UInt8), m = 128 - i ∧ i ≤ 128 ∧ l.length = 128 ∧ (∀ j, j < i → l[j]? = some x) ∧ St w0 [] w' [[(g5, cel (byt l) 5)]] ∧ Fr a 17 [(0, .int .u8 x.toNat), (3, .slice (some ⟨g5, 0, none⟩) 128 128), (4, .int .i64 i)]) (128 - 0) ?_ ?_
  · exact ⟨0, List.replicate 128 0, rfl, by omega, by simp, fun j h => by omega, by rw [show byt (List.replicate 128 0) = List.replicate 128 (.int .u8 0) by simp [byt]]; exact S, E.keep (keep_cons rfl (keep_cons rfl (keep_cons rfl keep_nil)))⟩
  clear E; clear a; (try clear S); rintro m a w ⟨i, l, rfl, hi, hl, hx, S, E⟩
  refine wp_seq_k ?_; intro K hK
  refine wp_seq_k ?_; intro K hK
  refine region_list ?_
  refine list_pure E rfl rfl (by decide) (rn_move E rfl rfl) ?_; clear E a; intro a E
  refine list_pure E rfl rfl (by decide) (rn_move E rfl rfl) ?_; clear E a; intro a E
  refine list_pure E rfl rfl (by decide) (by first | exact rn_len E rfl rfl rfl | exact rn_len_str E rfl rfl rfl | exact rn_len_string E rfl rfl rfl) ?_; clear E a; intro a E
  refine list_pure E rfl rfl (by decide) (rn_lss E rfl rfl rfl) ?_; clear E a; intro a E
  refine wpList_nil ?_
  refine then_k hK ?_; clear hK; clear K
  refine if_bool E rfl (fun hb => ?_) (fun hb => ?_)
  · replace hb := Nrm.nrm hb
    refine wp_skip ?_
    refine then_k hK ?_; clear hK; clear K
    refine wp_seq_k ?_; intro K hK
    refine wp_block ?_
    have hib : i < 128 := by omega
    refine region_list ?_
    refine list_pure E rfl rfl (by decide) (rn_move E rfl rfl) ?_; clear E a; intro a E
    refine list_pure E rfl rfl (by decide) (rn_move E rfl rfl) ?_; clear E a; intro a E
    refine list_pure E rfl rfl (by decide) (rn_move E rfl rfl) ?_; clear E a; intro a E
    refine list_pure E rfl rfl (by decide) (rn_indexAddr1 (i := i) E rfl rfl rfl rfl rfl rfl (by omega)) ?_; clear E a; intro a E
    refine list_wp rfl (wp_store1 E S rfl rfl rfl rfl rfl rfl (by repeat (first | exact pk1 | apply pick_tail)) (by rw [byt_length]; omega) ?_); clear E S a; intro a w E S; try dsimp only [List.set] at S
    refine wpList_nil ?_
    refine in_normal ?_
    refine then_k hK ?_; clear hK; clear K
    refine region_list ?_
    refine list_pure E rfl rfl (by decide) (rn_move E rfl rfl) ?_; clear E a; intro a E
    refine list_pure E rfl rfl (by decide) (rn_add E rfl rfl rfl (by first | exact wa_lit (y := 1) (by omega) | exact w_in (by omega) | exact w_inu (by omega) | exact rfl)) ?_; clear E a; intro a E
    refine list_pure E rfl rfl (by decide) (rn_assign E rfl rfl) ?_; clear E a; intro a E
    refine wpList_nil ?_
    refine then_normal ?_
    have hset : (byt l).set (0 + i) (.int .u8 x.toNat) = byt (l.set i x) := by rw [Nat.zero_add]; simp [byt, List.map_set]
    rw [hset] at S
    exact ⟨_, by omega, i + 1, l.set i x, rfl, by omega, by rw [List.length_set]; exact hl, fun j h => (by rw [List.getElem?_set]; by_cases hj : i = j; subst hj; simp [hl, hib]; rw [if_neg hj]; exact hx j (by omega)), S, E.keep (keep_cons rfl (keep_cons rfl (keep_cons rfl keep_nil)))⟩
  · replace hb := Nrm.nrm hb
    refine wp_exit ?_
    refine then_exit ?_; clear hK; clear K
    refine then_exit ?_
    refine in_exit ?_
    refine then_k hK ?_; clear hK; clear K
    refine wp_seq_k ?_; intro K hK
    refine region_list ?_
    refine list_pure E rfl rfl (by decide) (rn_move E rfl rfl) ?_; clear E a; intro a E
    refine list_pure E rfl rfl (by decide) (rn_assign E rfl rfl) ?_; clear E a; intro a E
    refine wpList_nil ?_
    refine then_k hK ?_; clear hK; clear K
    refine wp_ret ?_
    refine ret1 E rfl rfl ?_
    obtain rfl : i = 128 := by omega
    have hr : l = List.replicate 128 x := List.ext_getElem? fun j => (by rcases Nat.lt_or_ge j 128 with c1 | c1; rw [hx j c1, List.getElem?_replicate, if_pos c1]; rw [List.getElem?_eq_none (by omega), List.getElem?_eq_none (by simp; omega)])
    exact ⟨_, rfl, g5, rfl, by rw [← hr]; exact S.tr⟩
end Go.Proofs.Ytpppaohhnlgfoaa
