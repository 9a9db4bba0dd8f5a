/-
  Objects as blocks, plain: tables of slots. And: which slots may be.
-/
import Derived.Test.YtkkibnnddllabaaTreeV
import Derived.Test.YtkkibnnddllabaaCodeV
import Derived.Test.YtkkibnnddllabaaCodeU
namespace Go.Sl

structure Slt where
  used : Bool
  size : Int
  root : Pt
deriving DecidableEq
def Slt.lay (s : Slt) : List Value := [.bool s.used, .int .i64 s.size, .int .i64 s.root.top, .int .i64 s.root.at_, .int .i64 s.root.bytes, .int .u64 s.root.birth, .int .i64 s.root.kind, .int .u64 s.root.a, .int .u64 s.root.b, .int .u64 s.root.c, .int .u64 s.root.d]
abbrev Slt.agg (s : Slt) : Value := .agg #[.bool s.used, .int .i64 s.size, .int .i64 s.root.top, .int .i64 s.root.at_, .int .i64 s.root.bytes, .int .u64 s.root.birth, .int .i64 s.root.kind, .int .u64 s.root.a, .int .u64 s.root.b, .int .u64 s.root.c, .int .u64 s.root.d]
theorem Slt.lay_len (p : Slt) : p.lay.length = 11 := rfl
theorem Slt.lay_one (p : Slt) : ∀ u ∈ p.lay, u.oneCell' = true := fun u hu => by
  simp only [Slt.lay, List.mem_cons, List.not_mem_nil, or_false] at hu
  rcases hu with rfl | rfl | rfl | rfl | rfl | rfl | rfl | rfl | rfl | rfl | rfl <;> rfl
structure Slt.Ok (s : Slt) : Prop where
  size : -9223372036854775808 ≤ s.size ∧ s.size ≤ 9223372036854775807
  root : s.root.Ok
def sltZero : Slt := ⟨false, 0, ptZero⟩
def Slt.eqB (s t : Slt) : Bool := s.used == t.used && (s.size == t.size && s.root.eqB t.root)
theorem Slt.eqB_iff (s t : Slt) : s.eqB t = true ↔ s = t := by
  cases s; cases t
  simp [Slt.eqB, Pt.eqB_iff]
def maySB (s : Slt) : Bool := if s.used then decide (0 ≤ s.size ∧ s.size ≤ 65536 ∧ ptE s.root = 0) else decide (s = sltZero)
theorem maySB_root {s : Slt} (h : maySB s = true) : ptE s.root = 0 := by
  unfold maySB at h
  split at h
  · simp only [decide_eq_true_eq] at h; exact h.2.2
  · simp only [decide_eq_true_eq] at h; rw [h]; rfl
theorem maySB_size {s : Slt} (h : maySB s = true) : 0 ≤ s.size ∧ s.size ≤ 65536 := by
  unfold maySB at h
  split at h
  · simp only [decide_eq_true_eq] at h; exact ⟨h.1, h.2.1⟩
  · simp only [decide_eq_true_eq] at h; rw [h]; simp [sltZero]
theorem maySB_off {s : Slt} (hu : s.used = false) : s.eqB sltZero = maySB s := by
  rw [Bool.eq_iff_iff, Slt.eqB_iff]; simp [maySB, hu]
theorem mayS_doc (s : Slt) : maySB s = (decide (0 ≤ s.size ∧ s.size ≤ 65536 ∧ ptE s.root = 0) && (s.used || s.eqB sltZero)) := by
  unfold maySB
  cases hu : s.used with
  | true => simp
  | false =>
    have he := Slt.eqB_iff s sltZero
    by_cases hz : s = sltZero
    · rw [he.2 hz, hz]; simp [sltZero, ptE]
    · have h2 : s.eqB sltZero = false := by cases hq : s.eqB sltZero with
        | false => rfl
        | true => exact absurd (he.1 hq) hz
      simp [h2, hz]

/-- A slot's 72 bytes. -/
def sltB (s : Slt) : List UInt8 := formOf (if s.used then 1 else 0) 1 ++ List.replicate 3 0 ++ formOf s.size.toNat 4 ++ ptenc s.root
theorem sltB_length (s : Slt) : (sltB s).length = 72 := by simp [sltB, formOf_length, ptenc_length]
def tabB (l : List Slt) : List UInt8 := l.flatMap sltB
theorem tabB_length (l : List Slt) : (tabB l).length = 72 * l.length := by
  induction l with
  | nil => rfl
  | cons p r ih => rw [tabB, List.flatMap_cons, List.length_append, sltB_length, List.length_cons]; have : (r.flatMap sltB).length = 72 * r.length := ih; omega
theorem tabB_take {l : List Slt} {k : Nat} (h : k < l.length) : tabB (l.take (k + 1)) = tabB (l.take k) ++ sltB l[k] := by
  rw [List.take_add_one, List.getElem?_eq_getElem h, tabB, List.flatMap_append]; simp [tabB]
/-- What Table answers. -/
def tabE (l : List Slt) : Int := if 112 < l.length then 2 else if ∀ s ∈ l, maySB s = true then 0 else 120
def tabL (l : List Slt) : List UInt8 := if tabE l = 0 then tabB l else []
theorem tab_long {l : List Slt} (h : 112 < l.length) : tabE l = 2 ∧ tabL l = [] := by
  have : tabE l = 2 := by simp [tabE, h]
  exact ⟨this, by simp [tabL, this]⟩
theorem tab_bad {l : List Slt} (h : l.length ≤ 112) {s : Slt} (hs : s ∈ l) (hb : maySB s = false) : tabE l = 120 ∧ tabL l = [] := by
  have h1 : tabE l = 120 := by
    unfold tabE
    rw [if_neg (by omega), if_neg (fun q => by have := q s hs; rw [hb] at this; cases this)]
  exact ⟨h1, by simp [tabL, h1]⟩
theorem tab_good {l : List Slt} (h : l.length ≤ 112) (hg : ∀ s ∈ l, maySB s = true) : tabE l = 0 ∧ tabL l = tabB l := by
  have h1 : tabE l = 0 := by unfold tabE; rw [if_neg (by omega), if_pos hg]
  exact ⟨h1, by rw [tabL, if_pos h1]⟩
end Go.Sl
namespace Go.Proofs.Ytkkibnnddllabaa
open Go.Sl
set_option maxRecDepth 10000

theorem maysl_ret (s : Slt) (w0 : World) : Ret Try.prog 41 #[s.agg] w0 fun u w' => u = .bool (maySB s) ∧ Trs w0 w' [] [] := by
  have S := St.begin (hp_nil w0)
  refine enter1 23 Try.func41 rfl rfl (by decide) ?_; intro a E
  refine wp_seq_k ?_; intro K hK
  refine region_list ?_
  refine list_wp rfl (wp_box E S rfl rfl (by decide) rfl rfl ?_); clear E S a; intro a w b1 E S
  refine list_pure E rfl rfl (by decide) (rn_assign E rfl rfl) ?_; clear E a; intro a E
  refine wpList_nil ?_
  refine then_k hK ?_; clear hK; clear K
  refine wp_seq_k ?_; intro K hK
  refine wp_seq_k ?_; intro K hK
  refine region_list ?_
  refine list_pure E rfl rfl (by decide) (by first | exact rn_fieldAddr0 (q := 0) E rfl rfl rfl | exact rn_fieldAddr (q := 0) E rfl rfl rfl) ?_; clear E a; intro a E
  refine list_pure E rfl rfl (by decide) (by first | exact rn_load E rfl rfl rfl (S.get (by first | exact pk1 | exact pk2 | exact pk3 | exact pk4 | exact pk5 | exact pk6 | exact pk7 | exact pk8 | exact pk9)) rfl | exact rn_loadc E rfl rfl rfl (by assumption)) ?_; clear E a; intro a E
  refine list_pure E rfl rfl (by decide) (rn_not E rfl rfl) ?_; clear E a; intro a E
  refine wpList_nil ?_
  refine then_k hK ?_; clear hK; clear K
  refine if_bool E rfl (fun hb => ?_) (fun hb => ?_)
  · first | with_reducible replace hb := n1 hb | with_reducible replace hb := n2 hb | with_reducible replace hb := n3 hb | with_reducible replace hb := n4 hb | with_reducible replace hb := n5 hb | with_reducible replace hb := n6 hb | replace hb := n1 hb | replace hb := n2 hb | replace hb := n3 hb | replace hb := n4 hb | replace hb := n5 hb | replace hb := n6 hb | skip
    have hu : s.used = false := (by simpa using hb)
    refine wp_seq_k ?_; intro K hK
    refine region_list ?_
    refine list_pure E rfl rfl (by decide) (rn_load_blk (vs := [_, _, _, _, _, _, _, _, _, _, _]) E rfl rfl rfl (S.get (by first | exact pk1 | exact pk2 | exact pk3 | exact pk4 | exact pk5 | exact pk6 | exact pk7 | exact pk8 | exact pk9)) rfl rfl) ?_; clear E a; intro a E
    refine list_pure E rfl rfl (by decide) (rn_build (cells := [_, _, _, _, _, _, _, _, _, _, _]) E rfl rfl rfl) ?_; clear E a; intro a E
    refine list_pure E rfl rfl (by decide) (by first | exact rn_eql_pair E rfl rfl rfl rfl (by kernel_rfl) (by kernel_rfl) rfl rfl rfl | exact rn_eql_cells E rfl rfl rfl rfl (by kernel_rfl) (by kernel_rfl) rfl) ?_; clear E a; intro a E
    refine list_pure E rfl rfl (by decide) (rn_assign E rfl rfl) ?_; clear E a; intro a E
    refine wpList_nil ?_
    refine then_k hK ?_; clear hK; clear K
    refine wp_ret ?_
    refine then_ret ?_; clear hK; clear K
    refine ret1 E rfl rfl ?_
    exact ⟨_, rfl, congrArg Value.bool (maySB_off hu), (S.only (Bs := []) (sel_nil _)).tr⟩
  · first | with_reducible replace hb := n1 hb | with_reducible replace hb := n2 hb | with_reducible replace hb := n3 hb | with_reducible replace hb := n4 hb | with_reducible replace hb := n5 hb | with_reducible replace hb := n6 hb | replace hb := n1 hb | replace hb := n2 hb | replace hb := n3 hb | replace hb := n4 hb | replace hb := n5 hb | replace hb := n6 hb | skip
    have hu : s.used = true := (by simpa using hb)
    refine wp_skip ?_
    refine then_k hK ?_; clear hK; clear K
    refine wp_seq_k ?_; intro K hK
    refine region_list ?_
    refine list_pure E rfl rfl (by decide) (by first | exact rn_fieldAddr0 (q := 1) E rfl rfl rfl | exact rn_fieldAddr (q := 1) E rfl rfl rfl) ?_; clear E a; intro a E
    refine list_pure E rfl rfl (by decide) (by first | exact rn_load E rfl rfl rfl (S.get (by first | exact pk1 | exact pk2 | exact pk3 | exact pk4 | exact pk5 | exact pk6 | exact pk7 | exact pk8 | exact pk9)) rfl | exact rn_loadc E rfl rfl rfl (by assumption)) ?_; clear E a; intro a E
    refine list_pure E rfl rfl (by decide) (rn_geq E rfl rfl rfl) ?_; clear E a; intro a E
    refine list_pure E rfl rfl (by decide) (rn_move E rfl rfl) ?_; clear E a; intro a E
    refine guard_split E (t := 12) rfl (fun hb12 => ?_) (fun hb12 => ?_)
    · have hb12n := hb12; first | with_reducible replace hb12n := n1 hb12n | with_reducible replace hb12n := n2 hb12n | with_reducible replace hb12n := n3 hb12n | with_reducible replace hb12n := n4 hb12n | with_reducible replace hb12n := n5 hb12n | with_reducible replace hb12n := n6 hb12n | replace hb12n := n1 hb12n | replace hb12n := n2 hb12n | replace hb12n := n3 hb12n | replace hb12n := n4 hb12n | replace hb12n := n5 hb12n | replace hb12n := n6 hb12n | skip
      refine list_guard_yes E rfl rfl rfl rfl hb12 rfl (by decide) (by first | exact rn_fieldAddr0 (q := 1) E rfl rfl rfl | exact rn_fieldAddr (q := 1) E rfl rfl rfl) ?_; clear E a; intro a E
      refine list_guard_yes E rfl rfl rfl rfl hb12 rfl (by decide) (by first | exact rn_load E rfl rfl rfl (S.get (by first | exact pk1 | exact pk2 | exact pk3 | exact pk4 | exact pk5 | exact pk6 | exact pk7 | exact pk8 | exact pk9)) rfl | exact rn_loadc E rfl rfl rfl (by assumption)) ?_; clear E a; intro a E
      refine list_guard_yes E rfl rfl rfl rfl hb12 rfl (by decide) (rn_leq E rfl rfl rfl) ?_; clear E a; intro a E
      refine list_pure E rfl rfl (by decide) (rn_pick_yes' E rfl rfl hb12 rfl) ?_; clear E a; intro a E
      refine list_pure E rfl rfl (by decide) (rn_move E rfl rfl) ?_; clear E a; intro a E
      refine guard_split E (t := 17) rfl (fun hb17 => ?_) (fun hb17 => ?_)
      · have hb17n := hb17; first | with_reducible replace hb17n := n1 hb17n | with_reducible replace hb17n := n2 hb17n | with_reducible replace hb17n := n3 hb17n | with_reducible replace hb17n := n4 hb17n | with_reducible replace hb17n := n5 hb17n | with_reducible replace hb17n := n6 hb17n | replace hb17n := n1 hb17n | replace hb17n := n2 hb17n | replace hb17n := n3 hb17n | replace hb17n := n4 hb17n | replace hb17n := n5 hb17n | replace hb17n := n6 hb17n | skip
        refine list_guard_yes E rfl rfl rfl rfl hb17 rfl (by decide) (by first | exact rn_fieldAddr0 (q := 2) E rfl rfl rfl | exact rn_fieldAddr (q := 2) E rfl rfl rfl) ?_; clear E a; intro a E
        refine list_guard_yes E rfl rfl rfl rfl hb17 rfl (by decide) (rn_load_blk (vs := [_, _, _, _, _, _, _, _, _]) E rfl rfl rfl (S.get (by first | exact pk1 | exact pk2 | exact pk3 | exact pk4 | exact pk5 | exact pk6 | exact pk7 | exact pk8 | exact pk9)) rfl rfl) ?_; clear E a; intro a E
        refine list_guard_wp E rfl rfl rfl rfl hb17 ?_; refine wp_call' E rfl (by decide) rfl Try.func59 rfl (by kernel_rfl) rfl (ptcheck_ret s.root _) ?_
        rintro v20 w ⟨rfl, hT⟩; clear E a; intro a E
        have S := S.quiet hT
        refine list_guard_yes E rfl rfl rfl rfl hb17 rfl (by decide) (by first | exact rn_eql E rfl rfl rfl | exact rn_eql_ptr_nil E rfl rfl rfl rfl | exact rn_eql_bool E rfl rfl rfl rfl | exact rn_eql_string E rfl rfl rfl) ?_; clear E a; intro a E
        refine list_pure E rfl rfl (by decide) (rn_pick_yes' E rfl rfl hb17 rfl) ?_; clear E a; intro a E
        refine list_pure E rfl rfl (by decide) (rn_assign E rfl rfl) ?_; clear E a; intro a E
        refine wpList_nil ?_
        refine then_k hK ?_; clear hK; clear K
        refine wp_ret ?_
        refine ret1 E rfl rfl ?_
        exact ⟨_, rfl, congrArg Value.bool (by rw [Bool.eq_iff_iff]; simp [maySB, hu]; try omega), (S.only (Bs := []) (sel_nil _)).tr⟩
      · have hb17n := hb17; first | with_reducible replace hb17n := n1 hb17n | with_reducible replace hb17n := n2 hb17n | with_reducible replace hb17n := n3 hb17n | with_reducible replace hb17n := n4 hb17n | with_reducible replace hb17n := n5 hb17n | with_reducible replace hb17n := n6 hb17n | replace hb17n := n1 hb17n | replace hb17n := n2 hb17n | replace hb17n := n3 hb17n | replace hb17n := n4 hb17n | replace hb17n := n5 hb17n | replace hb17n := n6 hb17n | skip
        refine list_guard_no E rfl rfl rfl rfl hb17 rfl (by decide) ?_; clear E a; intro a E
        refine list_guard_no E rfl rfl rfl rfl hb17 rfl (by decide) ?_; clear E a; intro a E
        refine list_guard_no E rfl rfl rfl rfl hb17 rfl (by decide) ?_; clear E a; intro a E
        refine list_guard_no E rfl rfl rfl rfl hb17 rfl (by decide) ?_; clear E a; intro a E
        refine list_pure E rfl rfl (by decide) (rn_pick_no' E rfl rfl hb17 rfl) ?_; clear E a; intro a E
        refine list_pure E rfl rfl (by decide) (rn_assign E rfl rfl) ?_; clear E a; intro a E
        refine wpList_nil ?_
        refine then_k hK ?_; clear hK; clear K
        refine wp_ret ?_
        refine ret1 E rfl rfl ?_
        exact ⟨_, rfl, congrArg Value.bool (by rw [Bool.eq_iff_iff]; simp [maySB, hu]; try omega), (S.only (Bs := []) (sel_nil _)).tr⟩
    · have hb12n := hb12; first | with_reducible replace hb12n := n1 hb12n | with_reducible replace hb12n := n2 hb12n | with_reducible replace hb12n := n3 hb12n | with_reducible replace hb12n := n4 hb12n | with_reducible replace hb12n := n5 hb12n | with_reducible replace hb12n := n6 hb12n | replace hb12n := n1 hb12n | replace hb12n := n2 hb12n | replace hb12n := n3 hb12n | replace hb12n := n4 hb12n | replace hb12n := n5 hb12n | replace hb12n := n6 hb12n | skip
      refine list_guard_no E rfl rfl rfl rfl hb12 rfl (by decide) ?_; clear E a; intro a E
      refine list_guard_no E rfl rfl rfl rfl hb12 rfl (by decide) ?_; clear E a; intro a E
      refine list_guard_no E rfl rfl rfl rfl hb12 rfl (by decide) ?_; clear E a; intro a E
      refine list_pure E rfl rfl (by decide) (rn_pick_no' E rfl rfl hb12 rfl) ?_; clear E a; intro a E
      refine list_pure E rfl rfl (by decide) (rn_move E rfl rfl) ?_; clear E a; intro a E
      refine list_guard_no E rfl rfl rfl rfl rfl rfl (by decide) ?_; clear E a; intro a E
      refine list_guard_no E rfl rfl rfl rfl rfl rfl (by decide) ?_; clear E a; intro a E
      refine list_guard_no E rfl rfl rfl rfl rfl rfl (by decide) ?_; clear E a; intro a E
      refine list_guard_no E rfl rfl rfl rfl rfl rfl (by decide) ?_; clear E a; intro a E
      refine list_pure E rfl rfl (by decide) (rn_pick_no' E rfl rfl rfl rfl) ?_; clear E a; intro a E
      refine list_pure E rfl rfl (by decide) (rn_assign E rfl rfl) ?_; clear E a; intro a E
      refine wpList_nil ?_
      refine then_k hK ?_; clear hK; clear K
      refine wp_ret ?_
      refine ret1 E rfl rfl ?_
      exact ⟨_, rfl, congrArg Value.bool (by rw [Bool.eq_iff_iff]; simp [maySB, hu]; try omega), (S.only (Bs := []) (sel_nil _)).tr⟩

theorem dmaysl_ret (s : Slt) (w0 : World) : Ret Try.prog 46 #[s.agg] w0 fun u w' => u = .bool (maySB s) ∧ Trs w0 w' [] [] := by
  have S := St.begin (hp_nil w0)
  refine enter1 28 Try.func46 rfl rfl (by decide) ?_; intro a E
  refine wp_seq_k ?_; intro K hK
  refine region_list ?_
  refine list_wp rfl (wp_box E S rfl rfl (by decide) rfl rfl ?_); clear E S a; intro a w b1 E S
  refine list_pure E rfl rfl (by decide) (rn_assign E rfl rfl) ?_; clear E a; intro a E
  refine wpList_nil ?_
  refine then_k hK ?_; clear hK; clear K
  refine wp_seq_k ?_; intro K hK
  refine region_list ?_
  refine list_pure E rfl rfl (by decide) (by first | exact rn_fieldAddr0 (q := 2) E rfl rfl rfl | exact rn_fieldAddr (q := 2) E rfl rfl rfl) ?_; clear E a; intro a E
  refine list_pure E rfl rfl (by decide) (rn_load_blk (vs := [_, _, _, _, _, _, _, _, _]) E rfl rfl rfl (S.get (by first | exact pk1 | exact pk2 | exact pk3 | exact pk4 | exact pk5 | exact pk6 | exact pk7 | exact pk8 | exact pk9)) rfl rfl) ?_; clear E a; intro a E
  refine list_call E rfl rfl (by decide) rfl Try.func36 rfl (by kernel_rfl) rfl (dptcheck_ret s.root _) ?_
  rintro v6 w ⟨rfl, hT⟩; clear E a; intro a E
  have S := S.quiet hT
  refine list_pure E rfl rfl (by decide) (rn_assign E rfl rfl) ?_; clear E a; intro a E
  refine wpList_nil ?_
  refine then_k hK ?_; clear hK; clear K
  refine wp_seq_k ?_; intro K hK
  refine region_list ?_
  refine list_pure E rfl rfl (by decide) (by first | exact rn_fieldAddr0 (q := 1) E rfl rfl rfl | exact rn_fieldAddr (q := 1) E rfl rfl rfl) ?_; clear E a; intro a E
  refine list_pure E rfl rfl (by decide) (by first | exact rn_load E rfl rfl rfl (S.get (by first | exact pk1 | exact pk2 | exact pk3 | exact pk4 | exact pk5 | exact pk6 | exact pk7 | exact pk8 | exact pk9)) rfl | exact rn_loadc E rfl rfl rfl (by assumption)) ?_; clear E a; intro a E
  refine list_pure E rfl rfl (by decide) (rn_geq E rfl rfl rfl) ?_; clear E a; intro a E
  refine list_pure E rfl rfl (by decide) (rn_move E rfl rfl) ?_; clear E a; intro a E
  refine guard_split E (t := 10) rfl (fun hb10 => ?_) (fun hb10 => ?_)
  · have hb10n := hb10; first | with_reducible replace hb10n := n1 hb10n | with_reducible replace hb10n := n2 hb10n | with_reducible replace hb10n := n3 hb10n | with_reducible replace hb10n := n4 hb10n | with_reducible replace hb10n := n5 hb10n | with_reducible replace hb10n := n6 hb10n | replace hb10n := n1 hb10n | replace hb10n := n2 hb10n | replace hb10n := n3 hb10n | replace hb10n := n4 hb10n | replace hb10n := n5 hb10n | replace hb10n := n6 hb10n | skip
    refine list_guard_yes E rfl rfl rfl rfl hb10 rfl (by decide) (by first | exact rn_fieldAddr0 (q := 1) E rfl rfl rfl | exact rn_fieldAddr (q := 1) E rfl rfl rfl) ?_; clear E a; intro a E
    refine list_guard_yes E rfl rfl rfl rfl hb10 rfl (by decide) (by first | exact rn_load E rfl rfl rfl (S.get (by first | exact pk1 | exact pk2 | exact pk3 | exact pk4 | exact pk5 | exact pk6 | exact pk7 | exact pk8 | exact pk9)) rfl | exact rn_loadc E rfl rfl rfl (by assumption)) ?_; clear E a; intro a E
    refine list_guard_yes E rfl rfl rfl rfl hb10 rfl (by decide) (rn_leq E rfl rfl rfl) ?_; clear E a; intro a E
    refine list_pure E rfl rfl (by decide) (rn_pick_yes' E rfl rfl hb10 rfl) ?_; clear E a; intro a E
    refine list_pure E rfl rfl (by decide) (rn_move E rfl rfl) ?_; clear E a; intro a E
    refine guard_split E (t := 15) rfl (fun hb15 => ?_) (fun hb15 => ?_)
    · have hb15n := hb15; first | with_reducible replace hb15n := n1 hb15n | with_reducible replace hb15n := n2 hb15n | with_reducible replace hb15n := n3 hb15n | with_reducible replace hb15n := n4 hb15n | with_reducible replace hb15n := n5 hb15n | with_reducible replace hb15n := n6 hb15n | replace hb15n := n1 hb15n | replace hb15n := n2 hb15n | replace hb15n := n3 hb15n | replace hb15n := n4 hb15n | replace hb15n := n5 hb15n | replace hb15n := n6 hb15n | skip
      refine list_guard_yes E rfl rfl rfl rfl hb15 rfl (by decide) (rn_move E rfl rfl) ?_; clear E a; intro a E
      refine list_guard_yes E rfl rfl rfl rfl hb15 rfl (by decide) (by first | exact rn_eql E rfl rfl rfl | exact rn_eql_ptr_nil E rfl rfl rfl rfl | exact rn_eql_bool E rfl rfl rfl rfl | exact rn_eql_string E rfl rfl rfl) ?_; clear E a; intro a E
      refine list_pure E rfl rfl (by decide) (rn_pick_yes' E rfl rfl hb15 rfl) ?_; clear E a; intro a E
      refine list_pure E rfl rfl (by decide) (rn_move E rfl rfl) ?_; clear E a; intro a E
      refine guard_split E (t := 19) rfl (fun hb19 => ?_) (fun hb19 => ?_)
      · have hb19n := hb19; first | with_reducible replace hb19n := n1 hb19n | with_reducible replace hb19n := n2 hb19n | with_reducible replace hb19n := n3 hb19n | with_reducible replace hb19n := n4 hb19n | with_reducible replace hb19n := n5 hb19n | with_reducible replace hb19n := n6 hb19n | replace hb19n := n1 hb19n | replace hb19n := n2 hb19n | replace hb19n := n3 hb19n | replace hb19n := n4 hb19n | replace hb19n := n5 hb19n | replace hb19n := n6 hb19n | skip
        refine list_guard_yes E rfl rfl rfl rfl hb19 rfl (by decide) (by first | exact rn_fieldAddr0 (q := 0) E rfl rfl rfl | exact rn_fieldAddr (q := 0) E rfl rfl rfl) ?_; clear E a; intro a E
        refine list_guard_yes E rfl rfl rfl rfl hb19 rfl (by decide) (by first | exact rn_load E rfl rfl rfl (S.get (by first | exact pk1 | exact pk2 | exact pk3 | exact pk4 | exact pk5 | exact pk6 | exact pk7 | exact pk8 | exact pk9)) rfl | exact rn_loadc E rfl rfl rfl (by assumption)) ?_; clear E a; intro a E
        refine list_guard_yes E rfl rfl rfl rfl hb19 rfl (by decide) (rn_move E rfl rfl) ?_; clear E a; intro a E
        refine guard_split E (t := 22) rfl (fun hb22 => ?_) (fun hb22 => ?_)
        · have hb22n := hb22; first | with_reducible replace hb22n := n1 hb22n | with_reducible replace hb22n := n2 hb22n | with_reducible replace hb22n := n3 hb22n | with_reducible replace hb22n := n4 hb22n | with_reducible replace hb22n := n5 hb22n | with_reducible replace hb22n := n6 hb22n | replace hb22n := n1 hb22n | replace hb22n := n2 hb22n | replace hb22n := n3 hb22n | replace hb22n := n4 hb22n | replace hb22n := n5 hb22n | replace hb22n := n6 hb22n | skip
          refine list_guard_no E rfl rfl rfl rfl hb22 rfl (by decide) ?_; clear E a; intro a E
          refine list_guard_no E rfl rfl rfl rfl hb22 rfl (by decide) ?_; clear E a; intro a E
          refine list_guard_no E rfl rfl rfl rfl hb22 rfl (by decide) ?_; clear E a; intro a E
          refine list_guard_yes E rfl rfl rfl rfl hb19 rfl (by decide) (rn_pick_yes' E rfl rfl hb22 rfl) ?_; clear E a; intro a E
          refine list_pure E rfl rfl (by decide) (rn_pick_yes' E rfl rfl hb19 rfl) ?_; clear E a; intro a E
          refine list_pure E rfl rfl (by decide) (rn_assign E rfl rfl) ?_; clear E a; intro a E
          refine wpList_nil ?_
          refine then_k hK ?_; clear hK; clear K
          refine wp_ret ?_
          refine ret1 E rfl rfl ?_
          exact ⟨_, rfl, congrArg Value.bool (by rw [mayS_doc, Bool.eq_iff_iff]; simp_all [Slt.eqB, Pt.eqB, sltZero, ptZero]; try omega), (S.only (Bs := []) (sel_nil _)).tr⟩
        · have hb22n := hb22; first | with_reducible replace hb22n := n1 hb22n | with_reducible replace hb22n := n2 hb22n | with_reducible replace hb22n := n3 hb22n | with_reducible replace hb22n := n4 hb22n | with_reducible replace hb22n := n5 hb22n | with_reducible replace hb22n := n6 hb22n | replace hb22n := n1 hb22n | replace hb22n := n2 hb22n | replace hb22n := n3 hb22n | replace hb22n := n4 hb22n | replace hb22n := n5 hb22n | replace hb22n := n6 hb22n | skip
          refine list_guard_yes E rfl rfl rfl rfl hb22 rfl (by decide) (rn_load_blk (vs := [_, _, _, _, _, _, _, _, _, _, _]) E rfl rfl rfl (S.get (by first | exact pk1 | exact pk2 | exact pk3 | exact pk4 | exact pk5 | exact pk6 | exact pk7 | exact pk8 | exact pk9)) rfl rfl) ?_; clear E a; intro a E
          refine list_guard_yes E rfl rfl rfl rfl hb22 rfl (by decide) (rn_build (cells := [_, _, _, _, _, _, _, _, _, _, _]) E rfl rfl rfl) ?_; clear E a; intro a E
          refine list_guard_yes E rfl rfl rfl rfl hb22 rfl (by decide) (by first | exact rn_eql_pair E rfl rfl rfl rfl (by kernel_rfl) (by kernel_rfl) rfl rfl rfl | exact rn_eql_cells E rfl rfl rfl rfl (by kernel_rfl) (by kernel_rfl) rfl) ?_; clear E a; intro a E
          refine list_guard_yes E rfl rfl rfl rfl hb19 rfl (by decide) (rn_pick_no' E rfl rfl hb22 rfl) ?_; clear E a; intro a E
          refine list_pure E rfl rfl (by decide) (rn_pick_yes' E rfl rfl hb19 rfl) ?_; clear E a; intro a E
          refine list_pure E rfl rfl (by decide) (rn_assign E rfl rfl) ?_; clear E a; intro a E
          refine wpList_nil ?_
          refine then_k hK ?_; clear hK; clear K
          refine wp_ret ?_
          refine ret1 E rfl rfl ?_
          exact ⟨_, rfl, congrArg Value.bool (by rw [mayS_doc, Bool.eq_iff_iff]; simp_all [Slt.eqB, Pt.eqB, sltZero, ptZero]; try omega), (S.only (Bs := []) (sel_nil _)).tr⟩
      · have hb19n := hb19; first | with_reducible replace hb19n := n1 hb19n | with_reducible replace hb19n := n2 hb19n | with_reducible replace hb19n := n3 hb19n | with_reducible replace hb19n := n4 hb19n | with_reducible replace hb19n := n5 hb19n | with_reducible replace hb19n := n6 hb19n | replace hb19n := n1 hb19n | replace hb19n := n2 hb19n | replace hb19n := n3 hb19n | replace hb19n := n4 hb19n | replace hb19n := n5 hb19n | replace hb19n := n6 hb19n | skip
        refine list_guard_no E rfl rfl rfl rfl hb19 rfl (by decide) ?_; clear E a; intro a E
        refine list_guard_no E rfl rfl rfl rfl hb19 rfl (by decide) ?_; clear E a; intro a E
        refine list_guard_no E rfl rfl rfl rfl hb19 rfl (by decide) ?_; clear E a; intro a E
        refine list_guard_undef E rfl rfl rfl rfl rfl (by decide) ?_; clear E a; intro a E
        refine list_guard_undef E rfl rfl rfl rfl rfl (by decide) ?_; clear E a; intro a E
        refine list_guard_undef E rfl rfl rfl rfl rfl (by decide) ?_; clear E a; intro a E
        refine list_guard_no E rfl rfl rfl rfl hb19 rfl (by decide) ?_; clear E a; intro a E
        refine list_pure E rfl rfl (by decide) (rn_pick_no' E rfl rfl hb19 rfl) ?_; clear E a; intro a E
        refine list_pure E rfl rfl (by decide) (rn_assign E rfl rfl) ?_; clear E a; intro a E
        refine wpList_nil ?_
        refine then_k hK ?_; clear hK; clear K
        refine wp_ret ?_
        refine ret1 E rfl rfl ?_
        exact ⟨_, rfl, congrArg Value.bool (by rw [mayS_doc, Bool.eq_iff_iff]; simp_all [Slt.eqB, Pt.eqB, sltZero, ptZero]; try omega), (S.only (Bs := []) (sel_nil _)).tr⟩
    · have hb15n := hb15; first | with_reducible replace hb15n := n1 hb15n | with_reducible replace hb15n := n2 hb15n | with_reducible replace hb15n := n3 hb15n | with_reducible replace hb15n := n4 hb15n | with_reducible replace hb15n := n5 hb15n | with_reducible replace hb15n := n6 hb15n | replace hb15n := n1 hb15n | replace hb15n := n2 hb15n | replace hb15n := n3 hb15n | replace hb15n := n4 hb15n | replace hb15n := n5 hb15n | replace hb15n := n6 hb15n | skip
      refine list_guard_no E rfl rfl rfl rfl hb15 rfl (by decide) ?_; clear E a; intro a E
      refine list_guard_no E rfl rfl rfl rfl hb15 rfl (by decide) ?_; clear E a; intro a E
      refine list_pure E rfl rfl (by decide) (rn_pick_no' E rfl rfl hb15 rfl) ?_; clear E a; intro a E
      refine list_pure E rfl rfl (by decide) (rn_move E rfl rfl) ?_; clear E a; intro a E
      refine list_guard_no E rfl rfl rfl rfl rfl rfl (by decide) ?_; clear E a; intro a E
      refine list_guard_no E rfl rfl rfl rfl rfl rfl (by decide) ?_; clear E a; intro a E
      refine list_guard_no E rfl rfl rfl rfl rfl rfl (by decide) ?_; clear E a; intro a E
      refine list_guard_undef E rfl rfl rfl rfl rfl (by decide) ?_; clear E a; intro a E
      refine list_guard_undef E rfl rfl rfl rfl rfl (by decide) ?_; clear E a; intro a E
      refine list_guard_undef E rfl rfl rfl rfl rfl (by decide) ?_; clear E a; intro a E
      refine list_guard_no E rfl rfl rfl rfl rfl rfl (by decide) ?_; clear E a; intro a E
      refine list_pure E rfl rfl (by decide) (rn_pick_no' E rfl rfl rfl rfl) ?_; clear E a; intro a E
      refine list_pure E rfl rfl (by decide) (rn_assign E rfl rfl) ?_; clear E a; intro a E
      refine wpList_nil ?_
      refine then_k hK ?_; clear hK; clear K
      refine wp_ret ?_
      refine ret1 E rfl rfl ?_
      exact ⟨_, rfl, congrArg Value.bool (by rw [mayS_doc, Bool.eq_iff_iff]; simp_all [Slt.eqB, Pt.eqB, sltZero, ptZero]; try omega), (S.only (Bs := []) (sel_nil _)).tr⟩
  · have hb10n := hb10; first | with_reducible replace hb10n := n1 hb10n | with_reducible replace hb10n := n2 hb10n | with_reducible replace hb10n := n3 hb10n | with_reducible replace hb10n := n4 hb10n | with_reducible replace hb10n := n5 hb10n | with_reducible replace hb10n := n6 hb10n | replace hb10n := n1 hb10n | replace hb10n := n2 hb10n | replace hb10n := n3 hb10n | replace hb10n := n4 hb10n | replace hb10n := n5 hb10n | replace hb10n := n6 hb10n | skip
    refine list_guard_no E rfl rfl rfl rfl hb10 rfl (by decide) ?_; clear E a; intro a E
    refine list_guard_no E rfl rfl rfl rfl hb10 rfl (by decide) ?_; clear E a; intro a E
    refine list_guard_no E rfl rfl rfl rfl hb10 rfl (by decide) ?_; clear E a; intro a E
    refine list_pure E rfl rfl (by decide) (rn_pick_no' E rfl rfl hb10 rfl) ?_; clear E a; intro a E
    refine list_pure E rfl rfl (by decide) (rn_move E rfl rfl) ?_; clear E a; intro a E
    refine list_guard_no E rfl rfl rfl rfl rfl rfl (by decide) ?_; clear E a; intro a E
    refine list_guard_no E rfl rfl rfl rfl rfl rfl (by decide) ?_; clear E a; intro a E
    refine list_pure E rfl rfl (by decide) (rn_pick_no' E rfl rfl rfl rfl) ?_; clear E a; intro a E
    refine list_pure E rfl rfl (by decide) (rn_move E rfl rfl) ?_; clear E a; intro a E
    refine list_guard_no E rfl rfl rfl rfl rfl rfl (by decide) ?_; clear E a; intro a E
    refine list_guard_no E rfl rfl rfl rfl rfl rfl (by decide) ?_; clear E a; intro a E
    refine list_guard_no E rfl rfl rfl rfl rfl rfl (by decide) ?_; clear E a; intro a E
    refine list_guard_undef E rfl rfl rfl rfl rfl (by decide) ?_; clear E a; intro a E
    refine list_guard_undef E rfl rfl rfl rfl rfl (by decide) ?_; clear E a; intro a E
    refine list_guard_undef E rfl rfl rfl rfl rfl (by decide) ?_; clear E a; intro a E
    refine list_guard_no E rfl rfl rfl rfl rfl rfl (by decide) ?_; clear E a; intro a E
    refine list_pure E rfl rfl (by decide) (rn_pick_no' E rfl rfl rfl rfl) ?_; clear E a; intro a E
    refine list_pure E rfl rfl (by decide) (rn_assign E rfl rfl) ?_; clear E a; intro a E
    refine wpList_nil ?_
    refine then_k hK ?_; clear hK; clear K
    refine wp_ret ?_
    refine ret1 E rfl rfl ?_
    exact ⟨_, rfl, congrArg Value.bool (by rw [mayS_doc, Bool.eq_iff_iff]; simp_all [Slt.eqB, Pt.eqB, sltZero, ptZero]; try omega), (S.only (Bs := []) (sel_nil _)).tr⟩
end Go.Proofs.Ytkkibnnddllabaa
