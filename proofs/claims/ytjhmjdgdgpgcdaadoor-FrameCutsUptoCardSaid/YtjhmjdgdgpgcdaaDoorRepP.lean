/-
  Replies as frames, plain.
-/
import Derived.Test.YtjhmjdgdgpgcdaaDoorFrameX
namespace Go.Sl
abbrev sts (l : List (List UInt8)) : List Value := l.map str
structure Rp where
  ses : Int
  id : Int
  err : Int
  num : Int
  text : List UInt8
  list : List (List UInt8)
  data : List UInt8
deriving DecidableEq
abbrev rpagg (r : Rp) (l v : Value) : Value := .agg #[.int .i64 r.ses, .int .i64 r.id, .int .i64 r.err, .int .i64 r.num, str r.text, l, v]
/-- May a reply be? -/
def Rp.may (r : Rp) : Prop := 0 ≤ r.ses ∧ r.ses ≤ 8 ∧ 0 ≤ r.id ∧ r.id ≤ 1073741824 ∧ 0 ≤ r.err ∧ r.err ≤ 999 ∧ 0 ≤ r.num ∧ r.num ≤ 1099511627776 ∧ r.text.length ≤ 2048 ∧ r.list.length ≤ 240 ∧ (∀ t ∈ r.list, t.length ≤ 240) ∧ r.data.length ≤ 4096
instance (r : Rp) : Decidable r.may := by unfold Rp.may; infer_instance
/-- A reply's body. -/
def rpB (r : Rp) : List UInt8 := formOf r.ses.toNat 1 ++ formOf r.id.toNat 4 ++ formOf r.err.toNat 2 ++ formOf r.num.toNat 6 ++ txtB r.text ++ formOf r.list.length 2 ++ r.list.flatMap txtB ++ (formOf r.data.length 2 ++ r.data)
theorem texts_len : ∀ (l : List (List UInt8)), (∀ t ∈ l, t.length ≤ 240) → (l.flatMap txtB).length ≤ 242 * l.length
  | [], _ => by simp
  | t :: l, h => by
    have h1 := texts_len l fun t ht => h t (List.mem_cons_of_mem _ ht)
    have h2 := h t (List.mem_cons_self ..)
    rw [List.flatMap_cons, List.length_append, txtB_length, List.length_cons]; omega
theorem rpB_small {r : Rp} (h : r.may) : (rpB r).length ≤ 64243 := by
  obtain ⟨_, _, _, _, _, _, _, _, h1, h2, h3, h4⟩ := h
  have := texts_len r.list h3
  simp only [rpB, List.length_append, formOf_length, txtB_length]; omega
def rpO (r : Rp) : List UInt8 := if r.may then frm (2 :: rpB r) else []
def rpE (r : Rp) : Int := if r.may then 0 else 230
theorem rpO_yes {r : Rp} (h : r.may) : rpO r = frm (2 :: rpB r) := by simp [rpO, h]
theorem rpO_no {r : Rp} (h : ¬ r.may) : rpO r = [] := by simp [rpO, h]
theorem rpE_yes {r : Rp} (h : r.may) : rpE r = 0 := by simp [rpE, h]
theorem rpE_no {r : Rp} (h : ¬ r.may) : rpE r = 230 := by simp [rpE, h]
theorem rpO_small (r : Rp) : (rpO r).length ≤ 64256 := by
  unfold rpO; split
  · rename_i h; rw [frm_length, List.length_cons]; have := rpB_small h; omega
  · simp
theorem Rd.text {C : Chunk} {w : World} {b off c m i : Nat} {l : List (List UInt8)} (h : Rd C 1 (.slice (some ⟨b, off, none⟩) m c) m (sts l)) (hC : ∀ x ∈ C, w.heap[x.1]? = some x.2) (hi : i < l.length) : w.cell? ⟨b, off + i, none⟩ = some (str l[i]) :=
  h.cells hC rfl i _ (by simp [hi])
end Go.Sl
namespace Go.Proofs.YtjhmjdgdgpgcdaaDoor
open Go.Sl
set_option maxRecDepth 10000

theorem long_ret (t : List UInt8) (w0 : World) : Ret Tryd.prog 67 #[str t] w0 fun u w' => u = .bool (decide (240 < (t.length : Int))) ∧ Trs w0 w' [] [] := by
  have S := St.begin (hp_nil w0)
  refine enter1 6 Tryd.func67 rfl rfl (by decide) ?_; intro a E
  refine wp_seq_k ?_; intro K hK
  refine region_list ?_
  refine list_pure E rfl rfl (by decide) (rn_assign E rfl rfl) ?_; clear E a; intro a E
  refine wpList_nil ?_
  refine then_k hK ?_; clear hK; clear K
  refine wp_seq_k ?_; intro K hK
  refine region_list ?_
  refine list_pure E rfl rfl (by decide) (rn_move E rfl rfl) ?_; clear E a; intro a E
  refine list_pure E rfl rfl (by decide) (by first | exact rn_len E rfl rfl rfl | exact rn_len_str E rfl rfl rfl | exact rn_len_string E rfl rfl rfl) ?_; clear E a; intro a E
  refine list_pure E rfl rfl (by decide) (rn_gtr E rfl rfl rfl) ?_; clear E a; intro a E
  refine list_pure E rfl rfl (by decide) (rn_assign E rfl rfl) ?_; clear E a; intro a E
  refine wpList_nil ?_
  refine then_k hK ?_; clear hK; clear K
  refine wp_ret ?_
  refine ret1 E rfl rfl ?_
  exact ⟨_, rfl, rfl, (S.only (Bs := []) (sel_nil _)).tr⟩

theorem indexf_ret (L : Chunk) (v : Value) (l : List (List UInt8)) (hL : Rd L 1 v l.length (sts l)) (hl : l.length ≤ 140737488355328) (w0 : World) (H : Hp w0 [L]) :
    Ret Tryd.prog 84 #[v, .func (.func 67) #[] #[]] w0 fun u w' => ∃ k : Int, u = .int .i64 k ∧ (0 ≤ k ↔ ∃ t ∈ l, 240 < t.length) ∧ Trs w0 w' [L] [L] := by
  have S := St.begin H
  obtain ⟨ad, c, rfl⟩ := hL.slice
  refine enter2 19 Tryd.func84 rfl rfl (by decide) ?_; intro a E
  refine wp_seq_k ?_; intro K hK
  refine region_list ?_
  refine list_pure E rfl rfl (by decide) (rn_assign E rfl rfl) ?_; clear E a; intro a E
  refine wpList_nil ?_
  refine then_k hK ?_; clear hK; clear K
  refine wp_seq_k ?_; intro K hK
  refine wp_seq_k ?_; intro K hK
  refine region_list ?_
  refine list_pure E rfl rfl (by decide) (rn_move E rfl rfl) ?_; clear E a; intro a E
  refine list_pure E rfl rfl (by decide) (by first | exact rn_len E rfl rfl rfl | exact rn_len_str E rfl rfl rfl | exact rn_len_string E rfl rfl rfl) ?_; clear E a; intro a E
  refine list_pure E rfl rfl (by decide) (rn_move E rfl rfl) ?_; clear E a; intro a E
  refine wpList_nil ?_
  refine then_k hK ?_; clear hK; clear K
  refine wp_block ?_
  refine wp_loop_ghost (fun (m : Nat) (a : Act) (w' : World) => ∃ i : Nat, m = l.length - i ∧ i ≤ l.length ∧ (∀ t ∈ l.take i, t.length ≤ 240) ∧ St w0 [L] w' [L] ∧ Fr a 19 [(0, .slice ad l.length c), (1, .func (.func 67) #[] #[]), (7, .int .i64 l.length), (8, .int .i64 i)]) (l.length - 0) ?_ ?_
  · exact ⟨0, rfl, by omega, fun t ht => by simp at ht, S, E.keep (keep_cons rfl (keep_cons rfl (keep_cons rfl (keep_cons rfl keep_nil))))⟩
  clear E; clear a; (try clear S); rintro m a w ⟨i, rfl, hi, hm, S, E⟩
  refine wp_seq_k ?_; intro K hK
  refine region_list ?_
  refine list_pure E rfl rfl (by decide) (rn_lss E rfl rfl rfl) ?_; clear E a; intro a E
  refine wpList_nil ?_
  refine then_k hK ?_; clear hK; clear K
  refine wp_seq_k ?_; intro K hK
  refine if_bool E rfl (fun hb => ?_) (fun hb => ?_)
  · replace hb := Nrm.nrm hb
    refine wp_skip ?_
    refine then_k hK ?_; clear hK; clear K
    refine wp_seq_k ?_; intro K hK
    refine wp_block ?_
    refine wp_seq_k ?_; intro K hK
    have hib : i < l.length := by omega
    obtain ⟨g, off, rfl⟩ := hL.addr (by omega)
    refine region_list ?_
    refine list_pure E rfl rfl (by decide) (rn_move E rfl rfl) ?_; clear E a; intro a E
    refine list_pure E rfl rfl (by decide) (rn_assign E rfl rfl) ?_; clear E a; intro a E
    refine wpList_nil ?_
    refine then_k hK ?_; clear hK; clear K
    refine wp_seq_k ?_; intro K hK
    refine region_list ?_
    refine list_pure E rfl rfl (by decide) (rn_move E rfl rfl) ?_; clear E a; intro a E
    refine list_pure E rfl rfl (by decide) (rn_move E rfl rfl) ?_; clear E a; intro a E
    refine list_pure E rfl rfl (by decide) (rn_move E rfl rfl) ?_; clear E a; intro a E
    refine list_pure E rfl rfl (by decide) (by first | exact rn_indexAddr1 E rfl rfl rfl rfl rfl rfl (by omega) | exact rn_indexAddr E rfl rfl rfl rfl rfl rfl (by omega) | exact rn_indexAddr_array E rfl rfl rfl rfl rfl rfl (by omega)) ?_; clear E a; intro a E
    refine list_pure E rfl rfl (by decide) (rn_loadc E rfl rfl rfl (hL.text (S.stab.at (by repeat (first | exact mm1 | assumption | apply List.Mem.tail))) hib)) ?_; clear E a; intro a E
    refine list_callc E rfl rfl (by decide) rfl rfl Tryd.func67 rfl (by kernel_rfl) rfl (long_ret l[i] _) ?_
    rintro v16 w ⟨rfl, hT⟩; clear E a; intro a E
    have S := S.quiet hT
    refine wpList_nil ?_
    refine then_k hK ?_; clear hK; clear K
    refine if_bool E rfl (fun hb => ?_) (fun hb => ?_)
    · replace hb := Nrm.nrm hb
      refine wp_seq_k ?_; intro K hK
      refine region_list ?_
      refine list_pure E rfl rfl (by decide) (rn_move E rfl rfl) ?_; clear E a; intro a E
      refine list_pure E rfl rfl (by decide) (rn_assign E rfl rfl) ?_; clear E a; intro a E
      refine wpList_nil ?_
      refine then_k hK ?_; clear hK; clear K
      refine wp_ret ?_
      refine in_ret ?_
      refine then_ret ?_; clear hK; clear K
      refine then_ret ?_
      refine in_ret ?_
      refine then_ret ?_; clear hK; clear K
      refine ret1 E rfl rfl ?_
      exact ⟨_, rfl, _, rfl, ⟨fun _ => ⟨l[i], List.getElem_mem hib, by omega⟩, fun _ => by omega⟩, S.tr⟩
    · replace hb := Nrm.nrm hb
      refine wp_skip ?_
      refine in_normal ?_
      refine then_k hK ?_; clear hK; clear K
      refine region_list ?_
      refine list_pure E rfl rfl (by decide) (rn_add E rfl rfl rfl (by first | exact wa_lit (y := 1) (by omega) | exact w_in (by omega) | exact w_inu (by omega) | exact rfl)) ?_; clear E a; intro a E
      refine list_pure E rfl rfl (by decide) (rn_move E rfl rfl) ?_; clear E a; intro a E
      refine wpList_nil ?_
      refine then_normal ?_
      exact ⟨_, by omega, i + 1, rfl, by omega, fun t ht => (by rw [List.take_add_one, List.getElem?_eq_getElem hib] at ht; rcases List.mem_append.1 ht with h | h; exact hm t h; simp at h; subst h; omega), S, E.keep (keep_cons rfl (keep_cons rfl (keep_cons rfl (keep_cons rfl keep_nil))))⟩
  · replace hb := Nrm.nrm hb
    refine wp_exit ?_
    refine then_exit ?_; clear hK; clear K
    refine then_exit ?_
    refine in_exit ?_
    refine then_k hK ?_; clear hK; clear K
    refine wp_seq_k ?_; intro K hK
    refine region_list ?_
    refine list_pure E rfl rfl (by decide) (rn_assign E rfl rfl) ?_; clear E a; intro a E
    refine wpList_nil ?_
    refine then_k hK ?_; clear hK; clear K
    refine wp_ret ?_
    refine ret1 E rfl rfl ?_
    obtain rfl : i = l.length := by omega
    rw [List.take_length] at hm
    exact ⟨_, rfl, _, rfl, ⟨fun h => by omega, fun ⟨t, h1, h2⟩ => by have := hm t h1; omega⟩, S.tr⟩

theorem containsf_ret (L : Chunk) (v : Value) (l : List (List UInt8)) (hL : Rd L 1 v l.length (sts l)) (hl : l.length ≤ 140737488355328) (w0 : World) (H : Hp w0 [L]) :
    Ret Tryd.prog 68 #[v, .func (.func 67) #[] #[]] w0 fun u w' => ∃ bt : Bool, u = .bool bt ∧ (bt = true ↔ ¬ ∀ t ∈ l, t.length ≤ 240) ∧ Trs w0 w' [L] [L] := by
  have S := St.begin H
  have hL0 := hL
  obtain ⟨ad, c, rfl⟩ := hL.slice
  refine enter2 9 Tryd.func68 rfl rfl (by decide) ?_; intro a E
  refine wp_seq_k ?_; intro K hK
  refine region_list ?_
  refine list_pure E rfl rfl (by decide) (rn_assign E rfl rfl) ?_; clear E a; intro a E
  refine wpList_nil ?_
  refine then_k hK ?_; clear hK; clear K
  refine wp_seq_k ?_; intro K hK
  refine region_list ?_
  refine list_pure E rfl rfl (by decide) (rn_move E rfl rfl) ?_; clear E a; intro a E
  refine list_pure E rfl rfl (by decide) (rn_move E rfl rfl) ?_; clear E a; intro a E
  refine list_call E rfl rfl (by decide) rfl Tryd.func84 rfl (by kernel_rfl) rfl (indexf_ret L _ l hL0 hl _ (S.hp.sel (sel_cons (by repeat (first | exact pk1 | apply pick_tail)) (sel_nil _)))) ?_
  rintro v7 w ⟨k, rfl, hk, hT⟩; clear E a; intro a E
  have S := S.call1 (sel_cons (by repeat (first | exact pk1 | apply pick_tail)) (sel_nil _)) hT
  refine list_pure E rfl rfl (by decide) (rn_geq E rfl rfl rfl) ?_; clear E a; intro a E
  refine list_pure E rfl rfl (by decide) (rn_assign E rfl rfl) ?_; clear E a; intro a E
  refine wpList_nil ?_
  refine then_k hK ?_; clear hK; clear K
  refine wp_ret ?_
  refine ret1 E rfl rfl ?_
  exact ⟨_, rfl, _, rfl, by rw [show (¬ ∀ t ∈ l, t.length ≤ 240) ↔ ∃ t ∈ l, 240 < t.length by simp, ← hk]; simp, S.tr⟩

theorem answers_ret (r : Rp) (L : Chunk) (v : Value) (ad : Option Addr) (c : Nat) (hL : Rd L 1 v r.list.length (sts r.list)) (hl : r.list.length ≤ 140737488355328) (w0 : World) (H : Hp w0 [L]) : Ret Tryd.prog 41 #[rpagg r v (.slice ad r.data.length c)] w0 fun u w' => u = .bool (decide r.may) ∧ Trs w0 w' [L] [L] := by
  have S := St.begin H
  have hL0 := hL
  obtain ⟨adl, cl, rfl⟩ := hL.slice
  obtain ⟨Q, hQ⟩ : ∃ Q : Prop, Q = ∀ t ∈ r.list, t.length ≤ 240 := ⟨_, rfl⟩
  refine enter1 47 Tryd.func41 rfl rfl (by decide) ?_; intro a E
  refine wp_seq_k ?_; intro K hK
  refine region_list ?_
  refine list_wp rfl (wp_box E S rfl rfl (by decide) rfl rfl ?_); clear E S a; intro a w b1 E S
  refine list_pure E rfl rfl (by decide) (rn_assign E rfl rfl) ?_; clear E a; intro a E
  refine wpList_nil ?_
  refine then_k hK ?_; clear hK; clear K
  refine wp_seq_k ?_; intro K hK
  refine region_list ?_
  refine list_pure E rfl rfl (by decide) (rn_assign E rfl rfl) ?_; clear E a; intro a E
  refine wpList_nil ?_
  refine then_k hK ?_; clear hK; clear K
  refine wp_seq_k ?_; intro K hK
  refine region_list ?_
  refine list_pure E rfl rfl (by decide) (by first | exact rn_fieldAddr0 (q := 0) E rfl rfl rfl | exact rn_fieldAddr (q := 0) E rfl rfl rfl) ?_; clear E a; intro a E
  refine list_pure E rfl rfl (by decide) (by first | exact rn_load E rfl rfl rfl (S.get (by repeat (first | exact pk1 | apply pick_tail))) rfl | exact rn_loadc E rfl rfl rfl (by assumption)) ?_; clear E a; intro a E
  refine list_call E rfl rfl (by decide) rfl Tryd.func53 rfl (by kernel_rfl) rfl (within_ret _ 0 8 _) ?_
  rintro v6 w ⟨rfl, hT⟩; clear E a; intro a E
  have S := S.quiet hT
  refine list_pure E rfl rfl (by decide) (rn_move E rfl rfl) ?_; clear E a; intro a E
  refine guard_split E (t := 7) rfl (fun hb7 => ?_) (fun hb7 => ?_)
  · have hb7n := hb7; replace hb7n := Nrm.nrm hb7n
    refine list_guard_yes E rfl rfl rfl rfl hb7 rfl (by decide) (by first | exact rn_fieldAddr0 (q := 1) E rfl rfl rfl | exact rn_fieldAddr (q := 1) E rfl rfl rfl) ?_; clear E a; intro a E
    refine list_guard_yes E rfl rfl rfl rfl hb7 rfl (by decide) (by first | exact rn_load E rfl rfl rfl (S.get (by repeat (first | exact pk1 | apply pick_tail))) rfl | exact rn_loadc E rfl rfl rfl (by assumption)) ?_; clear E a; intro a E
    refine list_guard_wp E rfl rfl rfl rfl hb7 ?_; refine wp_call' E rfl (by decide) rfl Tryd.func53 rfl (by kernel_rfl) rfl (within_ret _ 0 1073741824 _) ?_
    rintro v10 w ⟨rfl, hT⟩; clear E a; intro a E
    have S := S.quiet hT
    refine list_pure E rfl rfl (by decide) (rn_pick_yes' E rfl rfl hb7 rfl) ?_; clear E a; intro a E
    refine list_pure E rfl rfl (by decide) (rn_move E rfl rfl) ?_; clear E a; intro a E
    refine guard_split E (t := 12) rfl (fun hb12 => ?_) (fun hb12 => ?_)
    · have hb12n := hb12; replace hb12n := Nrm.nrm hb12n
      refine list_guard_yes E rfl rfl rfl rfl hb12 rfl (by decide) (by first | exact rn_fieldAddr0 (q := 2) E rfl rfl rfl | exact rn_fieldAddr (q := 2) E rfl rfl rfl) ?_; clear E a; intro a E
      refine list_guard_yes E rfl rfl rfl rfl hb12 rfl (by decide) (by first | exact rn_load E rfl rfl rfl (S.get (by repeat (first | exact pk1 | apply pick_tail))) rfl | exact rn_loadc E rfl rfl rfl (by assumption)) ?_; clear E a; intro a E
      refine list_guard_wp E rfl rfl rfl rfl hb12 ?_; refine wp_call' E rfl (by decide) rfl Tryd.func53 rfl (by kernel_rfl) rfl (within_ret _ 0 999 _) ?_
      rintro v15 w ⟨rfl, hT⟩; clear E a; intro a E
      have S := S.quiet hT
      refine list_pure E rfl rfl (by decide) (rn_pick_yes' E rfl rfl hb12 rfl) ?_; clear E a; intro a E
      refine list_pure E rfl rfl (by decide) (rn_move E rfl rfl) ?_; clear E a; intro a E
      refine guard_split E (t := 17) rfl (fun hb17 => ?_) (fun hb17 => ?_)
      · have hb17n := hb17; replace hb17n := Nrm.nrm hb17n
        refine list_guard_yes E rfl rfl rfl rfl hb17 rfl (by decide) (by first | exact rn_fieldAddr0 (q := 3) E rfl rfl rfl | exact rn_fieldAddr (q := 3) E rfl rfl rfl) ?_; clear E a; intro a E
        refine list_guard_yes E rfl rfl rfl rfl hb17 rfl (by decide) (by first | exact rn_load E rfl rfl rfl (S.get (by repeat (first | exact pk1 | apply pick_tail))) rfl | exact rn_loadc E rfl rfl rfl (by assumption)) ?_; clear E a; intro a E
        refine list_guard_wp E rfl rfl rfl rfl hb17 ?_; refine wp_call' E rfl (by decide) rfl Tryd.func53 rfl (by kernel_rfl) rfl (within_ret _ 0 1099511627776 _) ?_
        rintro v20 w ⟨rfl, hT⟩; clear E a; intro a E
        have S := S.quiet hT
        refine list_pure E rfl rfl (by decide) (rn_pick_yes' E rfl rfl hb17 rfl) ?_; clear E a; intro a E
        refine list_pure E rfl rfl (by decide) (rn_move E rfl rfl) ?_; clear E a; intro a E
        refine guard_split E (t := 22) rfl (fun hb22 => ?_) (fun hb22 => ?_)
        · have hb22n := hb22; replace hb22n := Nrm.nrm hb22n
          refine list_guard_yes E rfl rfl rfl rfl hb22 rfl (by decide) (by first | exact rn_fieldAddr0 (q := 4) E rfl rfl rfl | exact rn_fieldAddr (q := 4) E rfl rfl rfl) ?_; clear E a; intro a E
          refine list_guard_yes E rfl rfl rfl rfl hb22 rfl (by decide) (by first | exact rn_load E rfl rfl rfl (S.get (by repeat (first | exact pk1 | apply pick_tail))) rfl | exact rn_loadc E rfl rfl rfl (by assumption)) ?_; clear E a; intro a E
          refine list_guard_yes E rfl rfl rfl rfl hb22 rfl (by decide) (by first | exact rn_len E rfl rfl rfl | exact rn_len_str E rfl rfl rfl | exact rn_len_string E rfl rfl rfl) ?_; clear E a; intro a E
          refine list_guard_yes E rfl rfl rfl rfl hb22 rfl (by decide) (rn_leq E rfl rfl rfl) ?_; clear E a; intro a E
          refine list_pure E rfl rfl (by decide) (rn_pick_yes' E rfl rfl hb22 rfl) ?_; clear E a; intro a E
          refine list_pure E rfl rfl (by decide) (rn_move E rfl rfl) ?_; clear E a; intro a E
          refine guard_split E (t := 28) rfl (fun hb28 => ?_) (fun hb28 => ?_)
          · have hb28n := hb28; replace hb28n := Nrm.nrm hb28n
            refine list_guard_yes E rfl rfl rfl rfl hb28 rfl (by decide) (by first | exact rn_fieldAddr0 (q := 5) E rfl rfl rfl | exact rn_fieldAddr (q := 5) E rfl rfl rfl) ?_; clear E a; intro a E
            refine list_guard_yes E rfl rfl rfl rfl hb28 rfl (by decide) (by first | exact rn_load E rfl rfl rfl (S.get (by repeat (first | exact pk1 | apply pick_tail))) rfl | exact rn_loadc E rfl rfl rfl (by assumption)) ?_; clear E a; intro a E
            refine list_guard_yes E rfl rfl rfl rfl hb28 rfl (by decide) (by first | exact rn_len E rfl rfl rfl | exact rn_len_str E rfl rfl rfl | exact rn_len_string E rfl rfl rfl) ?_; clear E a; intro a E
            refine list_guard_yes E rfl rfl rfl rfl hb28 rfl (by decide) (rn_leq E rfl rfl rfl) ?_; clear E a; intro a E
            refine list_pure E rfl rfl (by decide) (rn_pick_yes' E rfl rfl hb28 rfl) ?_; clear E a; intro a E
            refine list_pure E rfl rfl (by decide) (rn_move E rfl rfl) ?_; clear E a; intro a E
            refine guard_split E (t := 34) rfl (fun hb34 => ?_) (fun hb34 => ?_)
            · have hb34n := hb34; replace hb34n := Nrm.nrm hb34n
              refine list_guard_yes E rfl rfl rfl rfl hb34 rfl (by decide) (by first | exact rn_fieldAddr0 (q := 5) E rfl rfl rfl | exact rn_fieldAddr (q := 5) E rfl rfl rfl) ?_; clear E a; intro a E
              refine list_guard_yes E rfl rfl rfl rfl hb34 rfl (by decide) (by first | exact rn_load E rfl rfl rfl (S.get (by repeat (first | exact pk1 | apply pick_tail))) rfl | exact rn_loadc E rfl rfl rfl (by assumption)) ?_; clear E a; intro a E
              refine list_guard_yes E rfl rfl rfl rfl hb34 rfl (by decide) (rn_move E rfl rfl) ?_; clear E a; intro a E
              refine list_guard_wp E rfl rfl rfl rfl hb34 ?_; refine wp_call' E rfl (by decide) rfl Tryd.func68 rfl (by kernel_rfl) rfl (containsf_ret L _ r.list hL0 hl _ (S.hp.sel (sel_cons (by repeat (first | exact pk1 | apply pick_tail)) (sel_nil _)))) ?_
              rintro v38 w ⟨bt, rfl, hbt, hT⟩; clear E a; intro a E
              have S := S.call1 (sel_cons (by repeat (first | exact pk1 | apply pick_tail)) (sel_nil _)) hT; rw [← hQ] at hbt
              refine list_guard_yes E rfl rfl rfl rfl hb34 rfl (by decide) (rn_not E rfl rfl) ?_; clear E a; intro a E
              refine list_pure E rfl rfl (by decide) (rn_pick_yes' E rfl rfl hb34 rfl) ?_; clear E a; intro a E
              refine list_pure E rfl rfl (by decide) (rn_move E rfl rfl) ?_; clear E a; intro a E
              refine guard_split E (t := 41) rfl (fun hb41 => ?_) (fun hb41 => ?_)
              · have hb41n := hb41; replace hb41n := Nrm.nrm hb41n
                refine list_guard_yes E rfl rfl rfl rfl hb41 rfl (by decide) (by first | exact rn_fieldAddr0 (q := 6) E rfl rfl rfl | exact rn_fieldAddr (q := 6) E rfl rfl rfl) ?_; clear E a; intro a E
                refine list_guard_yes E rfl rfl rfl rfl hb41 rfl (by decide) (by first | exact rn_load E rfl rfl rfl (S.get (by repeat (first | exact pk1 | apply pick_tail))) rfl | exact rn_loadc E rfl rfl rfl (by assumption)) ?_; clear E a; intro a E
                refine list_guard_yes E rfl rfl rfl rfl hb41 rfl (by decide) (by first | exact rn_len E rfl rfl rfl | exact rn_len_str E rfl rfl rfl | exact rn_len_string E rfl rfl rfl) ?_; clear E a; intro a E
                refine list_guard_yes E rfl rfl rfl rfl hb41 rfl (by decide) (rn_leq E rfl rfl rfl) ?_; clear E a; intro a E
                refine list_pure E rfl rfl (by decide) (rn_pick_yes' E rfl rfl hb41 rfl) ?_; clear E a; intro a E
                refine list_pure E rfl rfl (by decide) (rn_assign E rfl rfl) ?_; clear E a; intro a E
                refine wpList_nil ?_
                refine then_k hK ?_; clear hK; clear K
                refine wp_ret ?_
                refine ret1 E rfl rfl ?_
                exact ⟨_, rfl, by congr 1; rw [Bool.eq_iff_iff, decide_eq_true_eq (p := Rp.may _)]; unfold Rp.may; rw [← hQ]; by_cases hq : Q <;> simp_all <;> omega, (S.only (Bs := [L]) (sel_cons (by repeat (first | exact pk1 | apply pick_tail)) (sel_nil _))).tr⟩
              · have hb41n := hb41; replace hb41n := Nrm.nrm hb41n
                refine list_guard_no E rfl rfl rfl rfl hb41 rfl (by decide) ?_; clear E a; intro a E
                refine list_guard_no E rfl rfl rfl rfl hb41 rfl (by decide) ?_; clear E a; intro a E
                refine list_guard_no E rfl rfl rfl rfl hb41 rfl (by decide) ?_; clear E a; intro a E
                refine list_guard_no E rfl rfl rfl rfl hb41 rfl (by decide) ?_; clear E a; intro a E
                refine list_pure E rfl rfl (by decide) (rn_pick_no' E rfl rfl hb41 rfl) ?_; clear E a; intro a E
                refine list_pure E rfl rfl (by decide) (rn_assign E rfl rfl) ?_; clear E a; intro a E
                refine wpList_nil ?_
                refine then_k hK ?_; clear hK; clear K
                refine wp_ret ?_
                refine ret1 E rfl rfl ?_
                exact ⟨_, rfl, by congr 1; rw [Bool.eq_iff_iff, decide_eq_true_eq (p := Rp.may _)]; unfold Rp.may; rw [← hQ]; by_cases hq : Q <;> simp_all <;> omega, (S.only (Bs := [L]) (sel_cons (by repeat (first | exact pk1 | apply pick_tail)) (sel_nil _))).tr⟩
            · have hb34n := hb34; replace hb34n := Nrm.nrm hb34n
              refine list_guard_no E rfl rfl rfl rfl hb34 rfl (by decide) ?_; clear E a; intro a E
              refine list_guard_no E rfl rfl rfl rfl hb34 rfl (by decide) ?_; clear E a; intro a E
              refine list_guard_no E rfl rfl rfl rfl hb34 rfl (by decide) ?_; clear E a; intro a E
              refine list_guard_no E rfl rfl rfl rfl hb34 rfl (by decide) ?_; clear E a; intro a E
              refine list_guard_no E rfl rfl rfl rfl hb34 rfl (by decide) ?_; clear E a; intro a E
              refine list_pure E rfl rfl (by decide) (rn_pick_no' E rfl rfl hb34 rfl) ?_; clear E a; intro a E
              refine list_pure E rfl rfl (by decide) (rn_move E rfl rfl) ?_; clear E a; intro a E
              refine list_guard_no E rfl rfl rfl rfl rfl rfl (by decide) ?_; clear E a; intro a E
              refine list_guard_no E rfl rfl rfl rfl rfl rfl (by decide) ?_; clear E a; intro a E
              refine list_guard_no E rfl rfl rfl rfl rfl rfl (by decide) ?_; clear E a; intro a E
              refine list_guard_no E rfl rfl rfl rfl rfl rfl (by decide) ?_; clear E a; intro a E
              refine list_pure E rfl rfl (by decide) (rn_pick_no' E rfl rfl rfl rfl) ?_; clear E a; intro a E
              refine list_pure E rfl rfl (by decide) (rn_assign E rfl rfl) ?_; clear E a; intro a E
              refine wpList_nil ?_
              refine then_k hK ?_; clear hK; clear K
              refine wp_ret ?_
              refine ret1 E rfl rfl ?_
              exact ⟨_, rfl, by congr 1; rw [Bool.eq_iff_iff, decide_eq_true_eq (p := Rp.may _)]; unfold Rp.may; rw [← hQ]; by_cases hq : Q <;> simp_all <;> omega, (S.only (Bs := [L]) (sel_cons (by repeat (first | exact pk1 | apply pick_tail)) (sel_nil _))).tr⟩
          · have hb28n := hb28; replace hb28n := Nrm.nrm hb28n
            refine list_guard_no E rfl rfl rfl rfl hb28 rfl (by decide) ?_; clear E a; intro a E
            refine list_guard_no E rfl rfl rfl rfl hb28 rfl (by decide) ?_; clear E a; intro a E
            refine list_guard_no E rfl rfl rfl rfl hb28 rfl (by decide) ?_; clear E a; intro a E
            refine list_guard_no E rfl rfl rfl rfl hb28 rfl (by decide) ?_; clear E a; intro a E
            refine list_pure E rfl rfl (by decide) (rn_pick_no' E rfl rfl hb28 rfl) ?_; clear E a; intro a E
            refine list_pure E rfl rfl (by decide) (rn_move E rfl rfl) ?_; clear E a; intro a E
            refine list_guard_no E rfl rfl rfl rfl rfl rfl (by decide) ?_; clear E a; intro a E
            refine list_guard_no E rfl rfl rfl rfl rfl rfl (by decide) ?_; clear E a; intro a E
            refine list_guard_no E rfl rfl rfl rfl rfl rfl (by decide) ?_; clear E a; intro a E
            refine list_guard_no E rfl rfl rfl rfl rfl rfl (by decide) ?_; clear E a; intro a E
            refine list_guard_no E rfl rfl rfl rfl rfl rfl (by decide) ?_; clear E a; intro a E
            refine list_pure E rfl rfl (by decide) (rn_pick_no' E rfl rfl rfl rfl) ?_; clear E a; intro a E
            refine list_pure E rfl rfl (by decide) (rn_move E rfl rfl) ?_; clear E a; intro a E
            refine list_guard_no E rfl rfl rfl rfl rfl rfl (by decide) ?_; clear E a; intro a E
            refine list_guard_no E rfl rfl rfl rfl rfl rfl (by decide) ?_; clear E a; intro a E
            refine list_guard_no E rfl rfl rfl rfl rfl rfl (by decide) ?_; clear E a; intro a E
            refine list_guard_no E rfl rfl rfl rfl rfl rfl (by decide) ?_; clear E a; intro a E
            refine list_pure E rfl rfl (by decide) (rn_pick_no' E rfl rfl rfl rfl) ?_; clear E a; intro a E
            refine list_pure E rfl rfl (by decide) (rn_assign E rfl rfl) ?_; clear E a; intro a E
            refine wpList_nil ?_
            refine then_k hK ?_; clear hK; clear K
            refine wp_ret ?_
            refine ret1 E rfl rfl ?_
            exact ⟨_, rfl, by congr 1; rw [Bool.eq_iff_iff, decide_eq_true_eq (p := Rp.may _)]; unfold Rp.may; rw [← hQ]; by_cases hq : Q <;> simp_all <;> omega, (S.only (Bs := [L]) (sel_cons (by repeat (first | exact pk1 | apply pick_tail)) (sel_nil _))).tr⟩
        · have hb22n := hb22; replace hb22n := Nrm.nrm hb22n
          refine list_guard_no E rfl rfl rfl rfl hb22 rfl (by decide) ?_; clear E a; intro a E
          refine list_guard_no E rfl rfl rfl rfl hb22 rfl (by decide) ?_; clear E a; intro a E
          refine list_guard_no E rfl rfl rfl rfl hb22 rfl (by decide) ?_; clear E a; intro a E
          refine list_guard_no E rfl rfl rfl rfl hb22 rfl (by decide) ?_; clear E a; intro a E
          refine list_pure E rfl rfl (by decide) (rn_pick_no' E rfl rfl hb22 rfl) ?_; clear E a; intro a E
          refine list_pure E rfl rfl (by decide) (rn_move E rfl rfl) ?_; clear E a; intro a E
          refine list_guard_no E rfl rfl rfl rfl rfl rfl (by decide) ?_; clear E a; intro a E
          refine list_guard_no E rfl rfl rfl rfl rfl rfl (by decide) ?_; clear E a; intro a E
          refine list_guard_no E rfl rfl rfl rfl rfl rfl (by decide) ?_; clear E a; intro a E
          refine list_guard_no E rfl rfl rfl rfl rfl rfl (by decide) ?_; clear E a; intro a E
          refine list_pure E rfl rfl (by decide) (rn_pick_no' E rfl rfl rfl rfl) ?_; clear E a; intro a E
          refine list_pure E rfl rfl (by decide) (rn_move E rfl rfl) ?_; clear E a; intro a E
          refine list_guard_no E rfl rfl rfl rfl rfl rfl (by decide) ?_; clear E a; intro a E
          refine list_guard_no E rfl rfl rfl rfl rfl rfl (by decide) ?_; clear E a; intro a E
          refine list_guard_no E rfl rfl rfl rfl rfl rfl (by decide) ?_; clear E a; intro a E
          refine list_guard_no E rfl rfl rfl rfl rfl rfl (by decide) ?_; clear E a; intro a E
          refine list_guard_no E rfl rfl rfl rfl rfl rfl (by decide) ?_; clear E a; intro a E
          refine list_pure E rfl rfl (by decide) (rn_pick_no' E rfl rfl rfl rfl) ?_; clear E a; intro a E
          refine list_pure E rfl rfl (by decide) (rn_move E rfl rfl) ?_; clear E a; intro a E
          refine list_guard_no E rfl rfl rfl rfl rfl rfl (by decide) ?_; clear E a; intro a E
          refine list_guard_no E rfl rfl rfl rfl rfl rfl (by decide) ?_; clear E a; intro a E
          refine list_guard_no E rfl rfl rfl rfl rfl rfl (by decide) ?_; clear E a; intro a E
          refine list_guard_no E rfl rfl rfl rfl rfl rfl (by decide) ?_; clear E a; intro a E
          refine list_pure E rfl rfl (by decide) (rn_pick_no' E rfl rfl rfl rfl) ?_; clear E a; intro a E
          refine list_pure E rfl rfl (by decide) (rn_assign E rfl rfl) ?_; clear E a; intro a E
          refine wpList_nil ?_
          refine then_k hK ?_; clear hK; clear K
          refine wp_ret ?_
          refine ret1 E rfl rfl ?_
          exact ⟨_, rfl, by congr 1; rw [Bool.eq_iff_iff, decide_eq_true_eq (p := Rp.may _)]; unfold Rp.may; rw [← hQ]; by_cases hq : Q <;> simp_all <;> omega, (S.only (Bs := [L]) (sel_cons (by repeat (first | exact pk1 | apply pick_tail)) (sel_nil _))).tr⟩
      · have hb17n := hb17; replace hb17n := Nrm.nrm hb17n
        refine list_guard_no E rfl rfl rfl rfl hb17 rfl (by decide) ?_; clear E a; intro a E
        refine list_guard_no E rfl rfl rfl rfl hb17 rfl (by decide) ?_; clear E a; intro a E
        refine list_guard_no E rfl rfl rfl rfl hb17 rfl (by decide) ?_; clear E a; intro a E
        refine list_pure E rfl rfl (by decide) (rn_pick_no' E rfl rfl hb17 rfl) ?_; clear E a; intro a E
        refine list_pure E rfl rfl (by decide) (rn_move E rfl rfl) ?_; clear E a; intro a E
        refine list_guard_no E rfl rfl rfl rfl rfl rfl (by decide) ?_; clear E a; intro a E
        refine list_guard_no E rfl rfl rfl rfl rfl rfl (by decide) ?_; clear E a; intro a E
        refine list_guard_no E rfl rfl rfl rfl rfl rfl (by decide) ?_; clear E a; intro a E
        refine list_guard_no E rfl rfl rfl rfl rfl rfl (by decide) ?_; clear E a; intro a E
        refine list_pure E rfl rfl (by decide) (rn_pick_no' E rfl rfl rfl rfl) ?_; clear E a; intro a E
        refine list_pure E rfl rfl (by decide) (rn_move E rfl rfl) ?_; clear E a; intro a E
        refine list_guard_no E rfl rfl rfl rfl rfl rfl (by decide) ?_; clear E a; intro a E
        refine list_guard_no E rfl rfl rfl rfl rfl rfl (by decide) ?_; clear E a; intro a E
        refine list_guard_no E rfl rfl rfl rfl rfl rfl (by decide) ?_; clear E a; intro a E
        refine list_guard_no E rfl rfl rfl rfl rfl rfl (by decide) ?_; clear E a; intro a E
        refine list_pure E rfl rfl (by decide) (rn_pick_no' E rfl rfl rfl rfl) ?_; clear E a; intro a E
        refine list_pure E rfl rfl (by decide) (rn_move E rfl rfl) ?_; clear E a; intro a E
        refine list_guard_no E rfl rfl rfl rfl rfl rfl (by decide) ?_; clear E a; intro a E
        refine list_guard_no E rfl rfl rfl rfl rfl rfl (by decide) ?_; clear E a; intro a E
        refine list_guard_no E rfl rfl rfl rfl rfl rfl (by decide) ?_; clear E a; intro a E
        refine list_guard_no E rfl rfl rfl rfl rfl rfl (by decide) ?_; clear E a; intro a E
        refine list_guard_no E rfl rfl rfl rfl rfl rfl (by decide) ?_; clear E a; intro a E
        refine list_pure E rfl rfl (by decide) (rn_pick_no' E rfl rfl rfl rfl) ?_; clear E a; intro a E
        refine list_pure E rfl rfl (by decide) (rn_move E rfl rfl) ?_; clear E a; intro a E
        refine list_guard_no E rfl rfl rfl rfl rfl rfl (by decide) ?_; clear E a; intro a E
        refine list_guard_no E rfl rfl rfl rfl rfl rfl (by decide) ?_; clear E a; intro a E
        refine list_guard_no E rfl rfl rfl rfl rfl rfl (by decide) ?_; clear E a; intro a E
        refine list_guard_no E rfl rfl rfl rfl rfl rfl (by decide) ?_; clear E a; intro a E
        refine list_pure E rfl rfl (by decide) (rn_pick_no' E rfl rfl rfl rfl) ?_; clear E a; intro a E
        refine list_pure E rfl rfl (by decide) (rn_assign E rfl rfl) ?_; clear E a; intro a E
        refine wpList_nil ?_
        refine then_k hK ?_; clear hK; clear K
        refine wp_ret ?_
        refine ret1 E rfl rfl ?_
        exact ⟨_, rfl, by congr 1; rw [Bool.eq_iff_iff, decide_eq_true_eq (p := Rp.may _)]; unfold Rp.may; rw [← hQ]; by_cases hq : Q <;> simp_all <;> omega, (S.only (Bs := [L]) (sel_cons (by repeat (first | exact pk1 | apply pick_tail)) (sel_nil _))).tr⟩
    · have hb12n := hb12; replace hb12n := Nrm.nrm hb12n
      refine list_guard_no E rfl rfl rfl rfl hb12 rfl (by decide) ?_; clear E a; intro a E
      refine list_guard_no E rfl rfl rfl rfl hb12 rfl (by decide) ?_; clear E a; intro a E
      refine list_guard_no E rfl rfl rfl rfl hb12 rfl (by decide) ?_; clear E a; intro a E
      refine list_pure E rfl rfl (by decide) (rn_pick_no' E rfl rfl hb12 rfl) ?_; clear E a; intro a E
      refine list_pure E rfl rfl (by decide) (rn_move E rfl rfl) ?_; clear E a; intro a E
      refine list_guard_no E rfl rfl rfl rfl rfl rfl (by decide) ?_; clear E a; intro a E
      refine list_guard_no E rfl rfl rfl rfl rfl rfl (by decide) ?_; clear E a; intro a E
      refine list_guard_no E rfl rfl rfl rfl rfl rfl (by decide) ?_; clear E a; intro a E
      refine list_pure E rfl rfl (by decide) (rn_pick_no' E rfl rfl rfl rfl) ?_; clear E a; intro a E
      refine list_pure E rfl rfl (by decide) (rn_move E rfl rfl) ?_; clear E a; intro a E
      refine list_guard_no E rfl rfl rfl rfl rfl rfl (by decide) ?_; clear E a; intro a E
      refine list_guard_no E rfl rfl rfl rfl rfl rfl (by decide) ?_; clear E a; intro a E
      refine list_guard_no E rfl rfl rfl rfl rfl rfl (by decide) ?_; clear E a; intro a E
      refine list_guard_no E rfl rfl rfl rfl rfl rfl (by decide) ?_; clear E a; intro a E
      refine list_pure E rfl rfl (by decide) (rn_pick_no' E rfl rfl rfl rfl) ?_; clear E a; intro a E
      refine list_pure E rfl rfl (by decide) (rn_move E rfl rfl) ?_; clear E a; intro a E
      refine list_guard_no E rfl rfl rfl rfl rfl rfl (by decide) ?_; clear E a; intro a E
      refine list_guard_no E rfl rfl rfl rfl rfl rfl (by decide) ?_; clear E a; intro a E
      refine list_guard_no E rfl rfl rfl rfl rfl rfl (by decide) ?_; clear E a; intro a E
      refine list_guard_no E rfl rfl rfl rfl rfl rfl (by decide) ?_; clear E a; intro a E
      refine list_pure E rfl rfl (by decide) (rn_pick_no' E rfl rfl rfl rfl) ?_; clear E a; intro a E
      refine list_pure E rfl rfl (by decide) (rn_move E rfl rfl) ?_; clear E a; intro a E
      refine list_guard_no E rfl rfl rfl rfl rfl rfl (by decide) ?_; clear E a; intro a E
      refine list_guard_no E rfl rfl rfl rfl rfl rfl (by decide) ?_; clear E a; intro a E
      refine list_guard_no E rfl rfl rfl rfl rfl rfl (by decide) ?_; clear E a; intro a E
      refine list_guard_no E rfl rfl rfl rfl rfl rfl (by decide) ?_; clear E a; intro a E
      refine list_guard_no E rfl rfl rfl rfl rfl rfl (by decide) ?_; clear E a; intro a E
      refine list_pure E rfl rfl (by decide) (rn_pick_no' E rfl rfl rfl rfl) ?_; clear E a; intro a E
      refine list_pure E rfl rfl (by decide) (rn_move E rfl rfl) ?_; clear E a; intro a E
      refine list_guard_no E rfl rfl rfl rfl rfl rfl (by decide) ?_; clear E a; intro a E
      refine list_guard_no E rfl rfl rfl rfl rfl rfl (by decide) ?_; clear E a; intro a E
      refine list_guard_no E rfl rfl rfl rfl rfl rfl (by decide) ?_; clear E a; intro a E
      refine list_guard_no E rfl rfl rfl rfl rfl rfl (by decide) ?_; clear E a; intro a E
      refine list_pure E rfl rfl (by decide) (rn_pick_no' E rfl rfl rfl rfl) ?_; clear E a; intro a E
      refine list_pure E rfl rfl (by decide) (rn_assign E rfl rfl) ?_; clear E a; intro a E
      refine wpList_nil ?_
      refine then_k hK ?_; clear hK; clear K
      refine wp_ret ?_
      refine ret1 E rfl rfl ?_
      exact ⟨_, rfl, by congr 1; rw [Bool.eq_iff_iff, decide_eq_true_eq (p := Rp.may _)]; unfold Rp.may; rw [← hQ]; by_cases hq : Q <;> simp_all <;> omega, (S.only (Bs := [L]) (sel_cons (by repeat (first | exact pk1 | apply pick_tail)) (sel_nil _))).tr⟩
  · have hb7n := hb7; replace hb7n := Nrm.nrm hb7n
    refine list_guard_no E rfl rfl rfl rfl hb7 rfl (by decide) ?_; clear E a; intro a E
    refine list_guard_no E rfl rfl rfl rfl hb7 rfl (by decide) ?_; clear E a; intro a E
    refine list_guard_no E rfl rfl rfl rfl hb7 rfl (by decide) ?_; clear E a; intro a E
    refine list_pure E rfl rfl (by decide) (rn_pick_no' E rfl rfl hb7 rfl) ?_; clear E a; intro a E
    refine list_pure E rfl rfl (by decide) (rn_move E rfl rfl) ?_; clear E a; intro a E
    refine list_guard_no E rfl rfl rfl rfl rfl rfl (by decide) ?_; clear E a; intro a E
    refine list_guard_no E rfl rfl rfl rfl rfl rfl (by decide) ?_; clear E a; intro a E
    refine list_guard_no E rfl rfl rfl rfl rfl rfl (by decide) ?_; clear E a; intro a E
    refine list_pure E rfl rfl (by decide) (rn_pick_no' E rfl rfl rfl rfl) ?_; clear E a; intro a E
    refine list_pure E rfl rfl (by decide) (rn_move E rfl rfl) ?_; clear E a; intro a E
    refine list_guard_no E rfl rfl rfl rfl rfl rfl (by decide) ?_; clear E a; intro a E
    refine list_guard_no E rfl rfl rfl rfl rfl rfl (by decide) ?_; clear E a; intro a E
    refine list_guard_no E rfl rfl rfl rfl rfl rfl (by decide) ?_; clear E a; intro a E
    refine list_pure E rfl rfl (by decide) (rn_pick_no' E rfl rfl rfl rfl) ?_; clear E a; intro a E
    refine list_pure E rfl rfl (by decide) (rn_move E rfl rfl) ?_; clear E a; intro a E
    refine list_guard_no E rfl rfl rfl rfl rfl rfl (by decide) ?_; clear E a; intro a E
    refine list_guard_no E rfl rfl rfl rfl rfl rfl (by decide) ?_; clear E a; intro a E
    refine list_guard_no E rfl rfl rfl rfl rfl rfl (by decide) ?_; clear E a; intro a E
    refine list_guard_no E rfl rfl rfl rfl rfl rfl (by decide) ?_; clear E a; intro a E
    refine list_pure E rfl rfl (by decide) (rn_pick_no' E rfl rfl rfl rfl) ?_; clear E a; intro a E
    refine list_pure E rfl rfl (by decide) (rn_move E rfl rfl) ?_; clear E a; intro a E
    refine list_guard_no E rfl rfl rfl rfl rfl rfl (by decide) ?_; clear E a; intro a E
    refine list_guard_no E rfl rfl rfl rfl rfl rfl (by decide) ?_; clear E a; intro a E
    refine list_guard_no E rfl rfl rfl rfl rfl rfl (by decide) ?_; clear E a; intro a E
    refine list_guard_no E rfl rfl rfl rfl rfl rfl (by decide) ?_; clear E a; intro a E
    refine list_pure E rfl rfl (by decide) (rn_pick_no' E rfl rfl rfl rfl) ?_; clear E a; intro a E
    refine list_pure E rfl rfl (by decide) (rn_move E rfl rfl) ?_; clear E a; intro a E
    refine list_guard_no E rfl rfl rfl rfl rfl rfl (by decide) ?_; clear E a; intro a E
    refine list_guard_no E rfl rfl rfl rfl rfl rfl (by decide) ?_; clear E a; intro a E
    refine list_guard_no E rfl rfl rfl rfl rfl rfl (by decide) ?_; clear E a; intro a E
    refine list_guard_no E rfl rfl rfl rfl rfl rfl (by decide) ?_; clear E a; intro a E
    refine list_guard_no E rfl rfl rfl rfl rfl rfl (by decide) ?_; clear E a; intro a E
    refine list_pure E rfl rfl (by decide) (rn_pick_no' E rfl rfl rfl rfl) ?_; clear E a; intro a E
    refine list_pure E rfl rfl (by decide) (rn_move E rfl rfl) ?_; clear E a; intro a E
    refine list_guard_no E rfl rfl rfl rfl rfl rfl (by decide) ?_; clear E a; intro a E
    refine list_guard_no E rfl rfl rfl rfl rfl rfl (by decide) ?_; clear E a; intro a E
    refine list_guard_no E rfl rfl rfl rfl rfl rfl (by decide) ?_; clear E a; intro a E
    refine list_guard_no E rfl rfl rfl rfl rfl rfl (by decide) ?_; clear E a; intro a E
    refine list_pure E rfl rfl (by decide) (rn_pick_no' E rfl rfl rfl rfl) ?_; clear E a; intro a E
    refine list_pure E rfl rfl (by decide) (rn_assign E rfl rfl) ?_; clear E a; intro a E
    refine wpList_nil ?_
    refine then_k hK ?_; clear hK; clear K
    refine wp_ret ?_
    refine ret1 E rfl rfl ?_
    exact ⟨_, rfl, by congr 1; rw [Bool.eq_iff_iff, decide_eq_true_eq (p := Rp.may _)]; unfold Rp.may; rw [← hQ]; by_cases hq : Q <;> simp_all <;> omega, (S.only (Bs := [L]) (sel_cons (by repeat (first | exact pk1 | apply pick_tail)) (sel_nil _))).tr⟩
end Go.Proofs.YtjhmjdgdgpgcdaaDoor
