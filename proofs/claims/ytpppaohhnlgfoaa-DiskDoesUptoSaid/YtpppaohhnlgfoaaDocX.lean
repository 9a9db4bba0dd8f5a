/-
  DiskDoes: both, side by side: written, read, asked.
-/
import Derived.Test.YtpppaohhnlgfoaaDocW
import Derived.Test.YtpppaohhnlgfoaaCrashL
namespace Go.Sl
theorem St.openFu {w0 w : World} {As Ms Ls : List Chunk} (pre : List Chunk) (S : St w0 As w (pre ++ (Ms.flatten :: Ls))) : St w0 As w (pre ++ (Ms ++ Ls)) :=
  ⟨S.hp0, by have h := S.tr; unfold Trs at *; simpa [List.flatten_cons, List.flatten_append] using h⟩
theorem St.closeFu {w0 w : World} {As Ms Ls : List Chunk} (pre : List Chunk) (S : St w0 As w (pre ++ (Ms ++ Ls))) : St w0 As w (pre ++ (Ms.flatten :: Ls)) :=
  ⟨S.hp0, by have h := S.tr; unfold Trs at *; simpa [List.flatten_cons, List.flatten_append] using h⟩
theorem Much.refl (s : Pw) (ws : List Wt) : Much s s ws ws := ⟨by omega, by omega, id⟩
end Go.Sl
namespace Go.Proofs.Ytpppaohhnlgfoaa
open Go.Sl
set_option maxRecDepth 10000
abbrev xcl (p : Nat) (vD : Value) (q : Nat) : Obj := cel [ptr p, vD, ptr q] 53
/-- Both are alike. -/
structure Rig (p q : Nat) (R : Rk) (P Q : Chunk) : Prop where
  rk : RkC p R P
  rf : RfC q R Q
  now : NowOk R
structure Bd (R : Rk) : Prop where
  ws : R.ws.length + 8192 ≤ 244335861110
  wr : R.pw.wr ≤ 1000000000000000000
  left : R.pw.left ≤ 9223372036854775807

theorem reads_ret (p q : Nat) (R : Rk) (P Q : Chunk) (hR : Rig p q R P Q) (xb : Nat) (vD : Value) (CD : Chunk) (hCD : Buf CD 27 1 vD R.ds.length (R.ds.map fun x => ptr x.d)) (n : Nat) (x : Dk) (hx : R.ds[n]? = some x) (at_ many : Int) (ha : -9223372036854775808 ≤ at_ ∧ at_ ≤ 9223372036854775807) (w0 : World) (H : Hp w0 [P, Q, [(xb, xcl p vD q)], CD]) :
    Ret Try.prog 24 #[ptr xb, .int .i64 n, .int .i64 at_, .int .i64 many] w0 fun u w' => u = .bool true ∧ Trs w0 w' [P, Q, [(xb, xcl p vD q)], CD] [P, Q, [(xb, xcl p vD q)], CD] := by
  have S := St.begin H
  have hxm : x ∈ R.ds := List.mem_of_getElem? hx
  have hxl := (hR.rk.ok.1.2 x hxm)
  obtain ⟨adD, cD, rfl⟩ := hCD.slice
  have hn : n < R.ds.length := (List.getElem?_eq_some_iff.1 hx).1
  obtain ⟨gD, rfl⟩ := hCD.addr (by omega)
  have hpt : (R.ds.map fun x => ptr x.d)[n]? = some (ptr x.d) := by rw [List.getElem?_map, hx]; rfl
  obtain ⟨r, hr⟩ : ∃ r, r = rdS R.pw x.failed x.now at_ many := ⟨_, rfl⟩
  have hrl : r.2.length ≤ 1048576 := by
    rw [hr]; unfold rdS
    split; simp
    split; simp
    split; simp
    simp only [List.length_take, List.length_drop]; omega
  refine enter4 70 Try.func24 rfl rfl (by decide) ?_; intro a E
  refine wp_seq_k ?_; intro K hK
  refine region_list ?_
  refine list_pure E rfl rfl (by decide) (rn_assign E rfl rfl) ?_; clear E a; intro a E
  refine wpList_nil ?_
  refine then_k hK ?_; clear hK; clear K
  refine wp_seq_k ?_; intro K hK
  refine region_list ?_
  refine list_pure E rfl rfl (by decide) (rn_move E rfl rfl) ?_; clear E a; intro a E
  refine list_pure E rfl rfl (by decide) (rn_nilCheck E rfl rfl) ?_; clear E a; intro a E
  refine list_pure E rfl rfl (by decide) (by first | exact rn_fieldAddr0 (q := 1) E rfl rfl rfl | exact rn_fieldAddr (q := 1) E rfl rfl rfl) ?_; clear E a; intro a E
  refine list_pure E rfl rfl (by decide) (by first | exact rn_load E rfl rfl rfl (S.get (by repeat (first | exact pk1 | apply pick_tail))) rfl | exact rn_loadc E rfl rfl rfl (by assumption)) ?_; clear E a; intro a E
  refine list_pure E rfl rfl (by decide) (rn_move E rfl rfl) ?_; clear E a; intro a E
  refine list_pure E rfl rfl (by decide) (rn_indexAddr1 (i := n) E rfl rfl rfl rfl rfl rfl (by omega)) ?_; clear E a; intro a E
  refine list_pure E rfl rfl (by decide) (rn_loadc E rfl rfl rfl (hCD.rd.cells (S.stab.at (by repeat (first | exact mm1 | assumption | apply List.Mem.tail))) rfl n _ hpt)) ?_; clear E a; intro a E
  refine list_pure E rfl rfl (by decide) (rn_move E rfl rfl) ?_; clear E a; intro a E
  refine list_pure E rfl rfl (by decide) (rn_move E rfl rfl) ?_; clear E a; intro a E
  refine list_call E rfl rfl (by decide) rfl Try.func12 rfl (by kernel_rfl) rfl (rk_read p R P hR.rk x hxm at_ many ha _ (S.hp.sel (sel_cons (by repeat (first | exact pk1 | apply pick_tail)) (sel_nil _)))) ?_
  rintro v25 w ⟨v1, C1, rfl, h1, hT⟩; clear E a; intro a E
  have S := S.call2 (sel_cons (by repeat (first | exact pk1 | apply pick_tail)) (sel_nil _)) hT; rw [← hr] at h1 E; obtain ⟨ad1, c1, rfl⟩ := h1.slice
  refine list_pure E rfl rfl (by decide) (rn_move E rfl rfl) ?_; clear E a; intro a E
  refine list_pure E rfl rfl (by decide) (rn_extract E rfl rfl rfl) ?_; clear E a; intro a E
  refine list_pure E rfl rfl (by decide) (rn_extract E rfl rfl rfl) ?_; clear E a; intro a E
  refine list_pure E rfl rfl (by decide) (rn_assign E rfl rfl) ?_; clear E a; intro a E
  refine list_pure E rfl rfl (by decide) (rn_assign E rfl rfl) ?_; clear E a; intro a E
  refine wpList_nil ?_
  refine then_k hK ?_; clear hK; clear K
  refine wp_seq_k ?_; intro K hK
  refine region_list ?_
  refine list_pure E rfl rfl (by decide) (rn_move E rfl rfl) ?_; clear E a; intro a E
  refine list_pure E rfl rfl (by decide) (rn_nilCheck E rfl rfl) ?_; clear E a; intro a E
  refine list_pure E rfl rfl (by decide) (by first | exact rn_fieldAddr0 (q := 2) E rfl rfl rfl | exact rn_fieldAddr (q := 2) E rfl rfl rfl) ?_; clear E a; intro a E
  refine list_pure E rfl rfl (by decide) (by first | exact rn_load E rfl rfl rfl (S.get (by repeat (first | exact pk1 | apply pick_tail))) rfl | exact rn_loadc E rfl rfl rfl (by assumption)) ?_; clear E a; intro a E
  refine list_pure E rfl rfl (by decide) (rn_move E rfl rfl) ?_; clear E a; intro a E
  refine list_pure E rfl rfl (by decide) (rn_move E rfl rfl) ?_; clear E a; intro a E
  refine list_pure E rfl rfl (by decide) (rn_move E rfl rfl) ?_; clear E a; intro a E
  refine list_call E rfl rfl (by decide) rfl Try.func42 rfl (by kernel_rfl) rfl (qread_ret q R Q hR.rf hR.rk.ok.1 hR.rk.ok.2 hR.now n x hx at_ many ha _ (S.hp.sel (sel_cons (by repeat (first | exact pk1 | apply pick_tail)) (sel_nil _)))) ?_
  rintro v36 w ⟨v2, C2, rfl, h2, hT⟩; clear E a; intro a E
  have S := S.call2 (sel_cons (by repeat (first | exact pk1 | apply pick_tail)) (sel_nil _)) hT; rw [← hr] at h2 E; obtain ⟨ad2, c2, rfl⟩ := h2.slice
  refine list_pure E rfl rfl (by decide) (rn_move E rfl rfl) ?_; clear E a; intro a E
  refine list_pure E rfl rfl (by decide) (rn_extract E rfl rfl rfl) ?_; clear E a; intro a E
  refine list_pure E rfl rfl (by decide) (rn_extract E rfl rfl rfl) ?_; clear E a; intro a E
  refine list_pure E rfl rfl (by decide) (rn_assign E rfl rfl) ?_; clear E a; intro a E
  refine list_pure E rfl rfl (by decide) (rn_assign E rfl rfl) ?_; clear E a; intro a E
  refine wpList_nil ?_
  refine then_k hK ?_; clear hK; clear K
  refine wp_seq_k ?_; intro K hK
  replace E := E.keep (e' := [(8, _), (9, _), (10, _), (11, _), (12, _)]) (keep_cons rfl (keep_cons rfl (keep_cons rfl (keep_cons rfl (keep_cons rfl (keep_nil))))))
  refine region_list ?_
  refine list_pure E rfl rfl (by decide) (rn_move E rfl rfl) ?_; clear E a; intro a E
  refine list_pure E rfl rfl (by decide) (rn_string E rfl rfl rfl rfl rfl h1.rd (S.stab.at (by repeat (first | exact mm1 | assumption | apply List.Mem.tail)))) ?_; clear E a; intro a E
  refine list_pure E rfl rfl (by decide) (rn_move E rfl rfl) ?_; clear E a; intro a E
  refine list_pure E rfl rfl (by decide) (rn_string E rfl rfl rfl rfl rfl h2.rd (S.stab.at (by repeat (first | exact mm1 | assumption | apply List.Mem.tail)))) ?_; clear E a; intro a E
  refine list_pure E rfl rfl (by decide) (by first | exact rn_eql E rfl rfl rfl | exact rn_eql_ptr_nil E rfl rfl rfl rfl | exact rn_eql_bool E rfl rfl rfl rfl | exact rn_eql_string E rfl rfl rfl) ?_; clear E a; intro a E
  refine list_pure E rfl rfl (by decide) (rn_assign E rfl rfl) ?_; clear E a; intro a E
  refine wpList_nil ?_
  refine then_k hK ?_; clear hK; clear K
  refine wp_seq_k ?_; intro K hK
  refine wp_seq_k ?_; intro K hK
  refine region_list ?_
  refine list_pure E rfl rfl (by decide) (rn_assign E rfl rfl) ?_; clear E a; intro a E
  refine wpList_nil ?_
  refine then_k hK ?_; clear hK; clear K
  refine wp_block ?_
  refine wp_loop_ghost (fun (m : Nat) (a : Act) (w' : World) => ∃ (i : Nat) (xs : List UInt8) (Cx : Chunk), m = r.2.length - i ∧ i ≤ r.2.length ∧ xs.length = r.2.length ∧ Buf Cx 5 1 (.slice ad1 r.2.length c1) r.2.length (byt xs) ∧ St w0 [P, Q, [(xb, xcl p (.slice (some ⟨gD, 0, none⟩) R.ds.length cD) q)], CD] w' [Cx, P, Q, [(xb, xcl p (.slice (some ⟨gD, 0, none⟩) R.ds.length cD) q)], CD] ∧ Fr a 70 [(9, .slice ad1 r.2.length c1), (10, .int .i64 r.1), (11, .slice ad2 r.2.length c2), (12, .int .i64 r.1), (13, .bool true), (14, .int .i64 i)]) (r.2.length - 0) ?_ ?_
  · refine ⟨0, r.2, C1, rfl, by omega, rfl, h1, S.only (Bs := [C1, P, Q, _, CD]) (sel_cons (by repeat (first | exact pk1 | apply pick_tail)) (sel_cons (by repeat (first | exact pk1 | apply pick_tail)) (sel_cons (by repeat (first | exact pk1 | apply pick_tail)) (sel_cons (by repeat (first | exact pk1 | apply pick_tail)) (sel_cons (by repeat (first | exact pk1 | apply pick_tail)) (sel_nil _)))))), ?_⟩; rw [decide_eq_true (show r.2 = r.2 from rfl)] at E; exact E.keep (keep_cons rfl (keep_cons rfl (keep_cons rfl (keep_cons rfl (keep_cons rfl (keep_cons rfl keep_nil))))))
  clear E; clear a; (try clear S); rintro m a w ⟨i, xs, Cx, rfl, hi, hxl, hCx, S, E⟩
  refine wp_seq_k ?_; intro K hK
  refine wp_seq_k ?_; intro K hK
  refine region_list ?_
  refine list_pure E rfl rfl (by decide) (rn_move E rfl rfl) ?_; clear E a; intro a E
  refine list_pure E rfl rfl (by decide) (rn_move E rfl rfl) ?_; clear E a; intro a E
  refine list_pure E rfl rfl (by decide) (by first | exact rn_len E rfl rfl rfl | exact rn_len_str E rfl rfl rfl | exact rn_len_string E rfl rfl rfl) ?_; clear E a; intro a E
  refine list_pure E rfl rfl (by decide) (rn_lss E rfl rfl rfl) ?_; clear E a; intro a E
  refine wpList_nil ?_
  refine then_k hK ?_; clear hK; clear K
  refine if_bool E rfl (fun hb => ?_) (fun hb => ?_)
  · replace hb := Nrm.nrm hb
    refine wp_skip ?_
    refine then_k hK ?_; clear hK; clear K
    refine wp_seq_k ?_; intro K hK
    refine wp_block ?_
    have hil : i < r.2.length := by omega
    obtain ⟨g1, rfl⟩ := hCx.addr (by omega)
    refine region_list ?_
    refine list_pure E rfl rfl (by decide) (rn_move E rfl rfl) ?_; clear E a; intro a E
    refine list_pure E rfl rfl (by decide) (rn_move E rfl rfl) ?_; clear E a; intro a E
    refine list_pure E rfl rfl (by decide) (rn_is00 (i := i) E rfl rfl rfl rfl rfl rfl (by omega)) ?_; clear E a; intro a E
    refine list_wp rfl (wp_elem1 E S rfl rfl rfl rfl rfl rfl hCx (by repeat (first | exact pk1 | apply pick_tail)) (i := i) (by rw [byt_length]; omega) rfl ?_); clear E S a; intro a w Cs3 E hBs3 S
    refine wpList_nil ?_
    refine in_normal ?_
    refine then_k hK ?_; clear hK; clear K
    refine region_list ?_
    refine list_pure E rfl rfl (by decide) (rn_move E rfl rfl) ?_; clear E a; intro a E
    refine list_pure E rfl rfl (by decide) (rn_add E rfl rfl rfl (by first | exact wa_lit (y := 1) (by omega) | exact w_in (by omega) | exact w_inu (by omega) | exact rfl)) ?_; clear E a; intro a E
    refine list_pure E rfl rfl (by decide) (rn_assign E rfl rfl) ?_; clear E a; intro a E
    refine wpList_nil ?_
    refine then_normal ?_
    have h9 := byt_set xs i 255
    rw [show ((255 : UInt8).toNat : Int) = 255 from rfl] at h9
    rw [h9] at hBs3
    exact ⟨_, by omega, i + 1, xs.set i 255, Cs3, rfl, by omega, by rw [List.length_set]; exact hxl, hBs3, S, E.keep (keep_cons rfl (keep_cons rfl (keep_cons rfl (keep_cons rfl (keep_cons rfl (keep_cons rfl keep_nil))))))⟩
  · replace hb := Nrm.nrm hb
    refine wp_exit ?_
    refine then_exit ?_; clear hK; clear K
    refine then_exit ?_
    refine in_exit ?_
    refine then_k hK ?_; clear hK; clear K
    refine wp_seq_k ?_; intro K hK
    refine region_list ?_
    refine list_pure E rfl rfl (by decide) (rn_move E rfl rfl) ?_; clear E a; intro a E
    refine list_wp rfl (wp_bslice (cells := [_]) E S rfl rfl (by decide) rfl rfl rfl rfl rfl (by decide) rfl ?_); clear E S a; intro a w b54 E S
    refine list_wp rfl (wp_append (by' := 1) E S rfl rfl (by decide) rfl rfl hCx (by repeat (first | exact pk1 | apply pick_tail)) ((rd_cells (g := b54) (T := 5) (xs := [.int .u8 255]) (s := 1) (m := 1) rfl (by simp [Value.oneCell']) (by omega) 1).src (S.stab.at (by repeat (first | exact mm1 | assumption | apply List.Mem.tail))) rfl) rfl rfl rfl rfl rfl rfl (by simp only [maxLen]; omega) (by omega) ?_); clear E S a; intro a w v55 C55 E S hB55
    obtain ⟨ad55, c55, rfl⟩ := hB55.slice
    refine list_pure E rfl rfl (by decide) (rn_assign E rfl rfl) ?_; clear E a; intro a E
    refine wpList_nil ?_
    refine then_k hK ?_; clear hK; clear K
    refine wp_seq_k ?_; intro K hK
    refine region_list ?_
    refine list_pure E rfl rfl (by decide) (rn_move E rfl rfl) ?_; clear E a; intro a E
    refine list_pure E rfl rfl (by decide) (rn_move E rfl rfl) ?_; clear E a; intro a E
    refine guard_true E (t := 57) rfl (rfl) (fun hb57 => ?_)
    refine list_guard_yes E rfl rfl rfl rfl hb57 rfl (by decide) (rn_move E rfl rfl) ?_; clear E a; intro a E
    refine list_guard_yes E rfl rfl rfl rfl hb57 rfl (by decide) (rn_move E rfl rfl) ?_; clear E a; intro a E
    refine list_guard_yes E rfl rfl rfl rfl hb57 rfl (by decide) (by first | exact rn_eql E rfl rfl rfl | exact rn_eql_ptr_nil E rfl rfl rfl rfl | exact rn_eql_bool E rfl rfl rfl rfl | exact rn_eql_string E rfl rfl rfl) ?_; clear E a; intro a E
    refine list_pure E rfl rfl (by decide) (rn_pick_yes' E rfl rfl hb57 rfl) ?_; clear E a; intro a E
    refine list_pure E rfl rfl (by decide) (rn_move E rfl rfl) ?_; clear E a; intro a E
    refine guard_true E (t := 62) rfl ((by simp)) (fun hb62 => ?_)
    refine list_guard_yes E rfl rfl rfl rfl hb62 rfl (by decide) (rn_move E rfl rfl) ?_; clear E a; intro a E
    refine list_guard_yes E rfl rfl rfl rfl hb62 rfl (by decide) (by first | exact rn_len E rfl rfl rfl | exact rn_len_str E rfl rfl rfl | exact rn_len_string E rfl rfl rfl) ?_; clear E a; intro a E
    refine list_guard_yes E rfl rfl rfl rfl hb62 rfl (by decide) (rn_move E rfl rfl) ?_; clear E a; intro a E
    refine list_guard_yes E rfl rfl rfl rfl hb62 rfl (by decide) (by first | exact rn_len E rfl rfl rfl | exact rn_len_str E rfl rfl rfl | exact rn_len_string E rfl rfl rfl) ?_; clear E a; intro a E
    refine list_guard_yes E rfl rfl rfl rfl hb62 rfl (by decide) (rn_add E rfl rfl rfl (by first | exact wa_lit (y := 1) (by omega) | exact w_in (by omega) | exact w_inu (by omega) | exact rfl)) ?_; clear E a; intro a E
    refine list_guard_yes E rfl rfl rfl rfl hb62 rfl (by decide) (by first | exact rn_eql E rfl rfl rfl | exact rn_eql_ptr_nil E rfl rfl rfl rfl | exact rn_eql_bool E rfl rfl rfl rfl | exact rn_eql_string E rfl rfl rfl) ?_; clear E a; intro a E
    refine list_pure E rfl rfl (by decide) (rn_pick_yes' E rfl rfl hb62 rfl) ?_; clear E a; intro a E
    refine list_pure E rfl rfl (by decide) (rn_assign E rfl rfl) ?_; clear E a; intro a E
    refine wpList_nil ?_
    refine then_k hK ?_; clear hK; clear K
    refine wp_ret ?_
    refine ret1 E rfl rfl ?_
    exact ⟨_, rfl, by simp, (S.only (Bs := [P, Q, _, CD]) (sel_cons (by repeat (first | exact pk1 | apply pick_tail)) (sel_cons (by repeat (first | exact pk1 | apply pick_tail)) (sel_cons (by repeat (first | exact pk1 | apply pick_tail)) (sel_cons (by repeat (first | exact pk1 | apply pick_tail)) (sel_nil _)))))).tr⟩

theorem writes_ret' (p q : Nat) (R : Rk) (P Q : Chunk) (hR : Rig p q R P Q) (hBd : Bd R) (xb : Nat) (vD : Value) (CD : Chunk) (hCD : Buf CD 27 1 vD R.ds.length (R.ds.map fun x => ptr x.d)) (n : Nat) (x : Dk) (hx : R.ds[n]? = some x) (O : Chunk) (o : Dop) (ho : DopG O o) (w0 : World) (H : Hp w0 [P, Q, [(xb, xcl p vD q)], CD, O]) :
    Ret Try.prog 34 #[ptr xb, .int .i64 n, .agg o.lay.toArray] w0 fun u w' => u = .bool true ∧ ∃ P' Q', Rig p q (R.write x o.at_ o.b) P' Q' ∧ Trs w0 w' [P, Q, [(xb, xcl p vD q)], CD, O] [P', Q', [(xb, xcl p vD q)], CD, O] := by
  have S := St.begin H
  have hxm : x ∈ R.ds := List.mem_of_getElem? hx
  obtain ⟨adD, cD, rfl⟩ := hCD.slice
  have hn : n < R.ds.length := (List.getElem?_eq_some_iff.1 hx).1
  obtain ⟨gD, rfl⟩ := hCD.addr (by omega)
  have hpt : (R.ds.map fun x => ptr x.d)[n]? = some (ptr x.d) := by rw [List.getElem?_map, hx]; rfl
  obtain ⟨adb, cb, hvb, hcb⟩ := ho.bc
  have hrb := ho.rb
  have hbl := ho.bl
  have hlay : o.lay = [.int .i64 o.kind, .int .i64 o.disk, .int .i64 o.at_, .int .i64 o.many, .slice adb o.b.length cb, o.vs] := by rw [← hvb]; rfl
  rw [hvb] at hrb
  rw [hlay]
  refine enter3 60 Try.func34 rfl rfl (by decide) ?_; intro a E
  refine wp_seq_k ?_; intro K hK
  refine region_list ?_
  refine list_wp rfl (wp_box E S rfl rfl (by decide) rfl rfl ?_); clear E S a; intro a w b5 E S
  refine list_pure E rfl rfl (by decide) (rn_assign E rfl rfl) ?_; clear E a; intro a E
  refine wpList_nil ?_
  refine then_k hK ?_; clear hK; clear K
  refine wp_seq_k ?_; intro K hK
  have S := S.addNil
  refine region_list ?_
  refine list_pure E rfl rfl (by decide) (by first | exact rn_fieldAddr0 (q := 4) E rfl rfl rfl | exact rn_fieldAddr (q := 4) E rfl rfl rfl) ?_; clear E a; intro a E
  refine list_pure E rfl rfl (by decide) (by first | exact rn_load E rfl rfl rfl (S.get (by repeat (first | exact pk1 | apply pick_tail))) rfl | exact rn_loadc E rfl rfl rfl (by assumption)) ?_; clear E a; intro a E
  refine list_wp rfl (wp_append (by' := 1) E S rfl rfl (by decide) rfl rfl (Buf.nil 5 1) (by repeat (first | exact pk1 | apply pick_tail)) (hrb.src (S.stab.at (by repeat (first | exact mm1 | assumption | apply List.Mem.tail))) rfl) rfl rfl rfl rfl rfl rfl (by simp only [maxLen]; omega) (by omega) ?_); clear E S a; intro a w v13 C13 E S hB13
  rw [Nat.zero_add, List.nil_append] at hB13; obtain ⟨ad13, c13, rfl⟩ := hB13.slice
  refine list_pure E rfl rfl (by decide) (rn_assign E rfl rfl) ?_; clear E a; intro a E
  refine wpList_nil ?_
  refine then_k hK ?_; clear hK; clear K
  refine wp_seq_k ?_; intro K hK
  refine region_mix0 S (.ofL [(0, 0), (1, 0), (2, 0), (3, 0), (4, 0), (5, 0), (6, 0), (7, 0), (8, 0), (9, 0), (10, 3), (11, 2)]) (by kernel_rfl) (by kernel_rfl) ?_
  clear S; intro w S
  refine mix_pure E rfl rfl rfl (by decide) (fun w h => rn_move E rfl rfl) ?_; clear E a; intro a E
  refine mix_pure E rfl rfl rfl (by decide) (fun w h => rn_nilCheck E rfl rfl) ?_; clear E a; intro a E
  refine mix_pure E rfl rfl rfl (by decide) (fun w h => by first | exact rn_fieldAddr0 (q := 1) E rfl rfl rfl | exact rn_fieldAddr (q := 1) E rfl rfl rfl) ?_; clear E a; intro a E
  refine mix_pure E rfl rfl rfl (by decide) (fun w h => by first | exact rn_load E rfl rfl rfl (h.one (by repeat (first | exact mm1 | assumption | apply List.Mem.tail))) rfl | exact rn_loadc E rfl rfl rfl (by assumption)) ?_; clear E a; intro a E
  refine mix_pure E rfl rfl rfl (by decide) (fun w h => rn_move E rfl rfl) ?_; clear E a; intro a E
  refine mix_pure E rfl rfl rfl (by decide) (fun w h => rn_indexAddr1 (i := n) E rfl rfl rfl rfl rfl rfl (by omega)) ?_; clear E a; intro a E
  refine mix_pure E rfl rfl rfl (by decide) (fun w h => rn_loadc E rfl rfl rfl (hCD.rd.cells (h.at (by repeat (first | exact mm1 | assumption | apply List.Mem.tail))) rfl n _ hpt)) ?_; clear E a; intro a E
  refine mix_pure E rfl rfl rfl (by decide) (fun w h => by first | exact rn_fieldAddr0 (q := 2) E rfl rfl rfl | exact rn_fieldAddr (q := 2) E rfl rfl rfl) ?_; clear E a; intro a E
  refine mix_pure E rfl rfl rfl (by decide) (fun w h => by first | exact rn_load E rfl rfl rfl (h.one (by repeat (first | exact mm1 | assumption | apply List.Mem.tail))) rfl | exact rn_loadc E rfl rfl rfl (by assumption)) ?_; clear E a; intro a E
  refine mix_pure E rfl rfl rfl (by decide) (fun w h => rn_move E rfl rfl) ?_; clear E a; intro a E
  refine mix_call3 E rfl rfl rfl (by decide) rfl Try.func10 rfl (by kernel_rfl) rfl (rk_write p R P hR.rk x hxm hBd.ws hBd.wr hBd.left o.at_ ho.at_ _ o.b C13 hB13.rd ⟨_, _, rfl, hB13.cap_le⟩ _ (S.hp.sel (sel_cons (by repeat (first | exact pk1 | apply pick_tail)) (sel_cons (by repeat (first | exact pk1 | apply pick_tail)) (sel_nil _))))) ?_
  rintro v24 w ⟨P', rfl, hP', hT⟩; clear E a; intro a E
  have S := S.call2 (sel_cons (by repeat (first | exact pk1 | apply pick_tail)) (sel_cons (by repeat (first | exact pk1 | apply pick_tail)) (sel_nil _))) hT
  refine mix_free E rfl rfl rfl (by decide) (fun w => rn_assign E rfl rfl) ?_; clear E a; intro a E
  refine mix_nil ?_
  refine then_k hK ?_; clear hK; clear K
  refine wp_seq_k ?_; intro K hK
  refine region_list ?_
  refine list_pure E rfl rfl (by decide) (rn_move E rfl rfl) ?_; clear E a; intro a E
  refine list_pure E rfl rfl (by decide) (rn_string E rfl rfl rfl rfl rfl hB13.rd (S.stab.at (by repeat (first | exact mm1 | assumption | apply List.Mem.tail)))) ?_; clear E a; intro a E
  refine list_pure E rfl rfl (by decide) (by first | exact rn_fieldAddr0 (q := 4) E rfl rfl rfl | exact rn_fieldAddr (q := 4) E rfl rfl rfl) ?_; clear E a; intro a E
  refine list_pure E rfl rfl (by decide) (by first | exact rn_load E rfl rfl rfl (S.get (by repeat (first | exact pk1 | apply pick_tail))) rfl | exact rn_loadc E rfl rfl rfl (by assumption)) ?_; clear E a; intro a E
  refine list_pure E rfl rfl (by decide) (rn_string E rfl rfl rfl rfl rfl hrb (S.stab.at (by repeat (first | exact mm1 | assumption | apply List.Mem.tail)))) ?_; clear E a; intro a E
  refine list_pure E rfl rfl (by decide) (by first | exact rn_eql E rfl rfl rfl | exact rn_eql_ptr_nil E rfl rfl rfl rfl | exact rn_eql_bool E rfl rfl rfl rfl | exact rn_eql_string E rfl rfl rfl) ?_; clear E a; intro a E
  refine list_pure E rfl rfl (by decide) (rn_assign E rfl rfl) ?_; clear E a; intro a E
  refine wpList_nil ?_
  refine then_k hK ?_; clear hK; clear K
  refine wp_seq_k ?_; intro K hK
  refine wp_seq_k ?_; intro K hK
  replace E := E.keep (e' := [(0, _), (1, _), (5, _), (6, _), (7, _), (8, _), (9, _)]) (keep_cons rfl (keep_cons rfl (keep_cons rfl (keep_cons rfl (keep_cons rfl (keep_cons rfl (keep_cons rfl (keep_nil))))))))
  refine region_list ?_
  refine list_pure E rfl rfl (by decide) (rn_assign E rfl rfl) ?_; clear E a; intro a E
  refine wpList_nil ?_
  refine then_k hK ?_; clear hK; clear K
  refine wp_block ?_
  refine wp_loop_ghost (fun (m : Nat) (a : Act) (w' : World) => ∃ (i : Nat) (xs : List UInt8) (Cx : Chunk), m = o.b.length - i ∧ i ≤ o.b.length ∧ xs.length = o.b.length ∧ Buf Cx 5 1 (.slice ad13 o.b.length c13) o.b.length (byt xs) ∧ St w0 [P, Q, [(xb, xcl p (.slice (some ⟨gD, 0, none⟩) R.ds.length cD) q)], CD, O] w' [Cx, P', Q, [(xb, xcl p (.slice (some ⟨gD, 0, none⟩) R.ds.length cD) q)], CD, [(b5, cel [.int .i64 o.kind, .int .i64 o.disk, .int .i64 o.at_, .int .i64 o.many, .slice adb o.b.length cb, o.vs] 34)], O] ∧ Fr a 60 [(0, ptr xb), (1, .int .i64 n), (5, ptr b5), (7, .slice ad13 o.b.length c13), (8, .int .i64 (R.writeE x o.at_ o.b)), (9, .bool true), (10, .int .i64 i)]) (o.b.length - 0) ?_ ?_
  · refine ⟨0, o.b, C13, rfl, by omega, rfl, hB13, S.only (Bs := [C13, P', Q, _, CD, [(b5, _)], O]) (sel_cons (by repeat (first | exact pk1 | apply pick_tail)) (sel_cons (by repeat (first | exact pk1 | apply pick_tail)) (sel_cons (by repeat (first | exact pk1 | apply pick_tail)) (sel_cons (by repeat (first | exact pk1 | apply pick_tail)) (sel_cons (by repeat (first | exact pk1 | apply pick_tail)) (sel_cons (by repeat (first | exact pk1 | apply pick_tail)) (sel_cons (by repeat (first | exact pk1 | apply pick_tail)) (sel_nil _)))))))), ?_⟩; rw [decide_eq_true (show o.b = o.b from rfl)] at E; exact E.keep (keep_cons rfl (keep_cons rfl (keep_cons rfl (keep_cons rfl (keep_cons rfl (keep_cons rfl (keep_cons rfl keep_nil)))))))
  clear E; clear a; (try clear S); rintro m a w ⟨i, xs, Cx, rfl, hi, hxl, hCx, S, E⟩
  refine wp_seq_k ?_; intro K hK
  refine wp_seq_k ?_; intro K hK
  refine region_list ?_
  refine list_pure E rfl rfl (by decide) (rn_move E rfl rfl) ?_; clear E a; intro a E
  refine list_pure E rfl rfl (by decide) (rn_move E rfl rfl) ?_; clear E a; intro a E
  refine list_pure E rfl rfl (by decide) (by first | exact rn_len E rfl rfl rfl | exact rn_len_str E rfl rfl rfl | exact rn_len_string E rfl rfl rfl) ?_; clear E a; intro a E
  refine list_pure E rfl rfl (by decide) (rn_lss E rfl rfl rfl) ?_; clear E a; intro a E
  refine wpList_nil ?_
  refine then_k hK ?_; clear hK; clear K
  refine if_bool E rfl (fun hb => ?_) (fun hb => ?_)
  · replace hb := Nrm.nrm hb
    refine wp_skip ?_
    refine then_k hK ?_; clear hK; clear K
    refine wp_seq_k ?_; intro K hK
    refine wp_block ?_
    have hil : i < o.b.length := by omega
    obtain ⟨g1, rfl⟩ := hCx.addr (by omega)
    obtain ⟨z, hz⟩ : ∃ z, xs[i]? = some z := ⟨_, List.getElem?_eq_getElem (by omega)⟩
    have hzb : (byt xs)[i]? = some (.int .u8 z.toNat) := by simp [byt, hz]
    refine region_list ?_
    refine list_pure E rfl rfl (by decide) (rn_move E rfl rfl) ?_; clear E a; intro a E
    refine list_pure E rfl rfl (by decide) (rn_move E rfl rfl) ?_; clear E a; intro a E
    refine list_pure E rfl rfl (by decide) (rn_move E rfl rfl) ?_; clear E a; intro a E
    refine list_pure E rfl rfl (by decide) (rn_move E rfl rfl) ?_; clear E a; intro a E
    refine list_pure E rfl rfl (by decide) (rn_is00 (i := i) E rfl rfl rfl rfl rfl rfl (by omega)) ?_; clear E a; intro a E
    refine list_pure E rfl rfl (by decide) (rn_loadc E rfl rfl rfl (by have := hCx.rd.cells (S.stab.at (by repeat (first | exact mm1 | assumption | apply List.Mem.tail))) rfl i _ hzb; rwa [Nat.zero_add] at this)) ?_; clear E a; intro a E
    refine list_pure E rfl rfl (by decide) (rn_add E rfl rfl rfl (show _ = ((z + 1).toNat : Int) from by rw [IntKind.wrap_u8]; simp [UInt8.toNat_add])) ?_; clear E a; intro a E
    refine list_pure E rfl rfl (by decide) (rn_is00 (i := i) E rfl rfl rfl rfl rfl rfl (by omega)) ?_; clear E a; intro a E
    refine list_wp rfl (wp_elem1 E S rfl rfl rfl rfl rfl rfl hCx (by repeat (first | exact pk1 | apply pick_tail)) (i := i) (by rw [byt_length]; omega) rfl ?_); clear E S a; intro a w Cs8 E hBs8 S
    refine wpList_nil ?_
    refine in_normal ?_
    refine then_k hK ?_; clear hK; clear K
    refine region_list ?_
    refine list_pure E rfl rfl (by decide) (rn_move E rfl rfl) ?_; clear E a; intro a E
    refine list_pure E rfl rfl (by decide) (rn_add E rfl rfl rfl (by first | exact wa_lit (y := 1) (by omega) | exact w_in (by omega) | exact w_inu (by omega) | exact rfl)) ?_; clear E a; intro a E
    refine list_pure E rfl rfl (by decide) (rn_assign E rfl rfl) ?_; clear E a; intro a E
    refine wpList_nil ?_
    refine then_normal ?_
    rw [byt_set] at hBs8
    exact ⟨_, by omega, i + 1, _, Cs8, rfl, by omega, by rw [List.length_set]; exact hxl, hBs8, S, E.keep (keep_cons rfl (keep_cons rfl (keep_cons rfl (keep_cons rfl (keep_cons rfl (keep_cons rfl (keep_cons rfl keep_nil)))))))⟩
  · replace hb := Nrm.nrm hb
    refine wp_exit ?_
    refine then_exit ?_; clear hK; clear K
    refine then_exit ?_
    refine in_exit ?_
    refine then_k hK ?_; clear hK; clear K
    refine wp_seq_k ?_; intro K hK
    refine region_mix0 S (.ofL [(0, 0), (1, 0), (2, 2), (3, 0), (4, 0), (5, 0), (6, 0), (7, 0), (8, 0), (9, 0), (10, 0), (11, 0), (12, 3), (13, 2), (14, 2), (15, 2)]) (by kernel_rfl) (by kernel_rfl) ?_
    clear S; intro w S
    refine mix_pure E rfl rfl rfl (by decide) (fun w h => rn_move E rfl rfl) ?_; clear E a; intro a E
    refine mix_pure E rfl rfl rfl (by decide) (fun w h => rn_move E rfl rfl) ?_; clear E a; intro a E
    refine guard_true E (t := 46) rfl (rfl) (fun hb46 => ?_)
    refine mix_guard_free E rfl rfl rfl rfl rfl hb46 rfl (by decide) (fun w => rn_move E rfl rfl) ?_; clear E a; intro a E
    refine mix_guard_yes E rfl rfl rfl rfl rfl hb46 rfl (by decide) (fun w h => rn_move E rfl rfl) ?_; clear E a; intro a E
    refine mix_guard_yes E rfl rfl rfl rfl rfl hb46 rfl (by decide) (fun w h => rn_nilCheck E rfl rfl) ?_; clear E a; intro a E
    refine mix_guard_yes E rfl rfl rfl rfl rfl hb46 rfl (by decide) (fun w h => by first | exact rn_fieldAddr0 (q := 2) E rfl rfl rfl | exact rn_fieldAddr (q := 2) E rfl rfl rfl) ?_; clear E a; intro a E
    refine mix_guard_yes E rfl rfl rfl rfl rfl hb46 rfl (by decide) (fun w h => by first | exact rn_load E rfl rfl rfl (h.one (by repeat (first | exact mm1 | assumption | apply List.Mem.tail))) rfl | exact rn_loadc E rfl rfl rfl (by assumption)) ?_; clear E a; intro a E
    refine mix_guard_yes E rfl rfl rfl rfl rfl hb46 rfl (by decide) (fun w h => rn_move E rfl rfl) ?_; clear E a; intro a E
    refine mix_guard_yes E rfl rfl rfl rfl rfl hb46 rfl (by decide) (fun w h => by first | exact rn_fieldAddr0 (q := 2) E rfl rfl rfl | exact rn_fieldAddr (q := 2) E rfl rfl rfl) ?_; clear E a; intro a E
    refine mix_guard_yes E rfl rfl rfl rfl rfl hb46 rfl (by decide) (fun w h => by first | exact rn_load E rfl rfl rfl (h.one (by repeat (first | exact mm1 | assumption | apply List.Mem.tail))) rfl | exact rn_loadc E rfl rfl rfl (by assumption)) ?_; clear E a; intro a E
    refine mix_guard_yes E rfl rfl rfl rfl rfl hb46 rfl (by decide) (fun w h => by first | exact rn_fieldAddr0 (q := 4) E rfl rfl rfl | exact rn_fieldAddr (q := 4) E rfl rfl rfl) ?_; clear E a; intro a E
    refine mix_guard_yes E rfl rfl rfl rfl rfl hb46 rfl (by decide) (fun w h => by first | exact rn_load E rfl rfl rfl (h.one (by repeat (first | exact mm1 | assumption | apply List.Mem.tail))) rfl | exact rn_loadc E rfl rfl rfl (by assumption)) ?_; clear E a; intro a E
    refine mix_guard_last E rfl rfl rfl rfl rfl hb46 ?_; refine wp_call' E rfl (by decide) rfl Try.func44 rfl (by kernel_rfl) rfl (qwrite_ret q R Q hR.rf hR.rk.ok.1 n x hx (hR.now x hxm).2 hBd.ws hBd.wr hBd.left o.at_ ho.at_ _ o.b O hrb ⟨_, _, rfl, hcb⟩ _ (S.hp.sel (sel_cons (by repeat (first | exact pk1 | apply pick_tail)) (sel_cons (by repeat (first | exact pk1 | apply pick_tail)) (sel_nil _))))) ?_
    rintro v57 w ⟨Q', rfl, hQ', hT⟩; clear E a; intro a E
    have S := S.call2 (sel_cons (by repeat (first | exact pk1 | apply pick_tail)) (sel_cons (by repeat (first | exact pk1 | apply pick_tail)) (sel_nil _))) hT
    refine mix_guard_free E rfl rfl rfl rfl rfl hb46 rfl (by decide) (fun w => by first | exact rn_eql E rfl rfl rfl | exact rn_eql_ptr_nil E rfl rfl rfl rfl | exact rn_eql_bool E rfl rfl rfl rfl | exact rn_eql_string E rfl rfl rfl) ?_; clear E a; intro a E
    refine mix_free E rfl rfl rfl (by decide) (fun w => rn_pick_yes' E rfl rfl hb46 rfl) ?_; clear E a; intro a E
    refine mix_free E rfl rfl rfl (by decide) (fun w => rn_assign E rfl rfl) ?_; clear E a; intro a E
    refine mix_nil ?_
    refine then_k hK ?_; clear hK; clear K
    refine wp_ret ?_
    refine ret1 E rfl rfl ?_
    have hok := hR.rk.ok.1
    exact ⟨_, rfl, by simp, P', Q', ⟨hP', hQ', now_write hok hR.now hxm _ _⟩, (S.only (Bs := [P', Q', _, CD, O]) (sel_cons (by repeat (first | exact pk1 | apply pick_tail)) (sel_cons (by repeat (first | exact pk1 | apply pick_tail)) (sel_cons (by repeat (first | exact pk1 | apply pick_tail)) (sel_cons (by repeat (first | exact pk1 | apply pick_tail)) (sel_cons (by repeat (first | exact pk1 | apply pick_tail)) (sel_nil _))))))).tr⟩
end Go.Proofs.Ytpppaohhnlgfoaa
