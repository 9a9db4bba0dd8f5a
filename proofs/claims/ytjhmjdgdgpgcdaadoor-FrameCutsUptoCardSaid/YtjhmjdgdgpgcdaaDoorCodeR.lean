/-
  The program's reader (package code): each of its functions does what the plain one says.
-/
import Derived.Test.YtjhmjdgdgpgcdaaDoorCodeW
namespace Go.Proofs.YtjhmjdgdgpgcdaaDoor
open Go.Sl
set_option maxRecDepth 10000

/-- A reader's block and its bytes. -/
def RdC (T : TypeId) (p : Nat) (s : Rdr) (A : Chunk) : Prop :=
  s.at_ ≤ s.bs.length ∧ s.bs.length ≤ 140737488355328 ∧
  ∃ ad c C, A = [(p, cel [.slice ad s.bs.length c, .int .i64 s.at_, .int .i64 s.e] T)] ++ C ∧ s.bs.length ≤ c ∧ Rd C 1 (.slice ad s.bs.length c) s.bs.length (byt s.bs)

theorem done_err (p : Nat) (s : Wr) (A : Chunk) (w0 : World) (hA : WrC 114 p s A) (H : Hp w0 [A]) (hr : s.bs.length ≤ 140737488355328) (he : s.e ≠ 0) :
    Ret Tryd.prog 51 #[ptr p] w0 fun u w' => u = .tuple #[.slice none 0 0, .int .i64 s.e] ∧ Trs w0 w' [A] [A] :=
  (done_ret p s A w0 hA H hr).mono fun _ _ h => by
    rcases h with ⟨_, h⟩ | ⟨h, _⟩
    · exact h
    · exact absurd h he
theorem done_ok (p : Nat) (s : Wr) (A : Chunk) (w0 : World) (hA : WrC 114 p s A) (H : Hp w0 [A]) (hr : s.bs.length ≤ 140737488355328) (he : s.e = 0) :
    Ret Tryd.prog 51 #[ptr p] w0 fun u w' => ∃ g, u = .tuple #[.slice (some ⟨g, 0, none⟩) s.bs.length s.bs.length, .int .i64 0] ∧ Trs w0 w' [A] [[(g, cel (byt s.bs) 5)], A] :=
  (done_ret p s A w0 hA H hr).mono fun _ _ h => by
    rcases h with ⟨h, _⟩ | ⟨_, h⟩
    · exact absurd he h
    · exact h

theorem reader_ret (D : Chunk) (v : Value) (bs : List UInt8) (w0 : World) (h : Rd D 1 v bs.length (byt bs)) (H : Hp w0 [D]) (hl : bs.length ≤ 140737488355328) :
    Ret Tryd.prog 32 #[v] w0 fun u w' => ∃ p A, u = ptr p ∧ RdC 100 p ⟨bs, 0, 0⟩ A ∧ Trs w0 w' [D] [A, D] := by
  have S := St.begin H
  refine enter1 7 Tryd.func32 rfl rfl (by decide) ?_; intro a E
  refine wp_seq_k ?_; intro K hK
  refine region_list ?_
  refine list_pure E rfl rfl (by decide) (rn_assign E rfl rfl) ?_; clear E a; intro a E
  refine wpList_nil ?_
  refine then_k hK ?_; clear hK; clear K
  refine wp_seq_k ?_; intro K hK
  refine region_list ?_
  refine list_pure E rfl rfl (by decide) (rn_move E rfl rfl) ?_; clear E a; intro a E
  refine list_call E rfl rfl (by decide) rfl Tryd.func58 rfl (by kernel_rfl) rfl (copied_ret D v bs w0 h H (by omega)) ?_
  rintro v4 w ⟨g, rfl, hT⟩; clear E a; intro a E
  have S := S.all hT
  refine list_pure E rfl rfl (by decide) (rn_build (cells := [_, _, _]) E rfl rfl rfl) ?_; clear E a; intro a E
  refine list_wp rfl (wp_box E S rfl rfl (by decide) rfl rfl ?_); clear E S a; intro a w b6 E S
  refine list_pure E rfl rfl (by decide) (rn_assign E rfl rfl) ?_; clear E a; intro a E
  refine wpList_nil ?_
  refine then_k hK ?_; clear hK; clear K
  refine wp_ret ?_
  refine ret1 E rfl rfl ?_
  have S := S.gather (A := [(b6, _)]) (B := [(g, _)]) (by repeat (first | exact pk1 | apply pick_tail)) (by repeat (first | exact pk1 | apply pick_tail))
  exact ⟨_, rfl, b6, _, rfl, ⟨Nat.zero_le _, hl, _, _, _, rfl, Nat.le_refl _, rd_block rfl (by simp only; omega) _⟩, S.tr⟩

theorem take_ret (p : Nat) (s : Rdr) (A : Chunk) (w0 : World) (hA : RdC 100 p s A) (H : Hp w0 [A]) (n behind : Nat) (hn : n ≤ 9223372036854775807) (hb : behind ≤ 8) :
    Ret Tryd.prog 61 #[ptr p, .int .i64 n, .int .i64 behind] w0 fun u w' => Trs w0 w' [A] [A] ∧
      ((s.bs.length < s.at_ + behind + n ∧ u = .tuple #[.slice none 0 0, .bool false]) ∨
       (s.at_ + behind + n ≤ s.bs.length ∧ ∃ ad c, u = .tuple #[.slice ad n c, .bool true] ∧ Rd A 1 (.slice ad n c) n (byt (s.cut n behind)))) := by
  obtain ⟨hat, hlen, ad, c, C, hAe, hc, hR⟩ := hA
  have S := St.begin H
  have S := (by rw [hAe] at S; exact S.split : St w0 _ w0 ([(p, cel [.slice ad s.bs.length c, .int .i64 s.at_, .int .i64 s.e] 100)] :: C :: _))
  refine enter3 41 Tryd.func61 rfl rfl (by decide) ?_; intro a E
  refine wp_seq_k ?_; intro K hK
  refine region_list ?_
  refine list_pure E rfl rfl (by decide) (rn_assign E rfl rfl) ?_; clear E a; intro a E
  refine list_pure E rfl rfl (by decide) (rn_assign E rfl rfl) ?_; clear E a; intro a E
  refine wpList_nil ?_
  refine then_k hK ?_; clear hK; clear K
  refine wp_seq_k ?_; intro K hK
  refine wp_seq_k ?_; intro K hK
  refine region_mix0 S (.ofL [(0, 0), (1, 0), (2, 0), (3, 0), (4, 0), (5, 0), (6, 0), (7, 0), (8, 0), (9, 0), (10, 0), (11, 0), (12, 0), (13, 0)]) (by kernel_rfl) (by kernel_rfl) ?_
  clear S; intro w S
  refine mix_pure E rfl rfl rfl (by decide) (fun w h => rn_move E rfl rfl) ?_; clear E a; intro a E
  refine mix_pure E rfl rfl rfl (by decide) (fun w h => rn_move E rfl rfl) ?_; clear E a; intro a E
  refine mix_pure E rfl rfl rfl (by decide) (fun w h => rn_nilCheck E rfl rfl) ?_; clear E a; intro a E
  refine mix_pure E rfl rfl rfl (by decide) (fun w h => by first | exact rn_fieldAddr0 (q := 0) E rfl rfl rfl | exact rn_fieldAddr (q := 0) E rfl rfl rfl) ?_; clear E a; intro a E
  refine mix_pure E rfl rfl rfl (by decide) (fun w h => by first | exact rn_load E rfl rfl rfl (h.one (by repeat (first | exact mm1 | apply List.Mem.tail))) rfl | exact rn_loadc E rfl rfl rfl (by assumption)) ?_; clear E a; intro a E
  refine mix_pure E rfl rfl rfl (by decide) (fun w h => by first | exact rn_len E rfl rfl rfl | exact rn_len_str E rfl rfl rfl | exact rn_len_string E rfl rfl rfl) ?_; clear E a; intro a E
  refine mix_pure E rfl rfl rfl (by decide) (fun w h => rn_move E rfl rfl) ?_; clear E a; intro a E
  refine mix_pure E rfl rfl rfl (by decide) (fun w h => rn_nilCheck E rfl rfl) ?_; clear E a; intro a E
  refine mix_pure E rfl rfl rfl (by decide) (fun w h => by first | exact rn_fieldAddr0 (q := 1) E rfl rfl rfl | exact rn_fieldAddr (q := 1) E rfl rfl rfl) ?_; clear E a; intro a E
  refine mix_pure E rfl rfl rfl (by decide) (fun w h => by first | exact rn_load E rfl rfl rfl (h.one (by repeat (first | exact mm1 | apply List.Mem.tail))) rfl | exact rn_loadc E rfl rfl rfl (by assumption)) ?_; clear E a; intro a E
  refine mix_pure E rfl rfl rfl (by decide) (fun w h => rn_sub E rfl rfl rfl (by first | exact ws1 (by omega) (by omega) | exact w_in (by omega) | exact w_inu (by omega) | exact rfl)) ?_; clear E a; intro a E
  refine mix_pure E rfl rfl rfl (by decide) (fun w h => rn_move E rfl rfl) ?_; clear E a; intro a E
  refine mix_pure E rfl rfl rfl (by decide) (fun w h => rn_sub E rfl rfl rfl (by first | exact ws1 (by omega) (by omega) | exact w_in (by omega) | exact w_inu (by omega) | exact rfl)) ?_; clear E a; intro a E
  refine mix_pure E rfl rfl rfl (by decide) (fun w h => rn_gtr E rfl rfl rfl) ?_; clear E a; intro a E
  refine mix_nil ?_
  refine then_k hK ?_; clear hK; clear K
  refine if_bool E rfl (fun hb => ?_) (fun hb => ?_)
  · replace hb := Nrm.nrm hb
    have S := S.join; rw [← hAe] at S
    refine wp_seq_k ?_; intro K hK
    refine region_list ?_
    refine list_pure E rfl rfl (by decide) (rn_assign E rfl rfl) ?_; clear E a; intro a E
    refine list_pure E rfl rfl (by decide) (rn_assign E rfl rfl) ?_; clear E a; intro a E
    refine wpList_nil ?_
    refine then_k hK ?_; clear hK; clear K
    refine wp_ret ?_
    refine then_ret ?_; clear hK; clear K
    refine ret2 E rfl rfl rfl ?_
    exact ⟨_, rfl, S.tr, .inl ⟨by omega, rfl⟩⟩
  · replace hb := Nrm.nrm hb
    refine wp_skip ?_
    refine then_k hK ?_; clear hK; clear K
    refine wp_seq_k ?_; intro K hK
    refine region_mix0 S (.ofL [(0, 0), (1, 0), (2, 0), (3, 0), (4, 0), (5, 0), (6, 0), (7, 0), (8, 0), (9, 0), (10, 0), (11, 0), (12, 0), (13, 0), (14, 0), (15, 0), (16, 0), (17, 0), (18, 0), (19, 0), (20, 0)]) (by kernel_rfl) (by kernel_rfl) ?_
    clear S; intro w S
    refine mix_pure E rfl rfl rfl (by decide) (fun w h => rn_move E rfl rfl) ?_; clear E a; intro a E
    refine mix_pure E rfl rfl rfl (by decide) (fun w h => rn_nilCheck E rfl rfl) ?_; clear E a; intro a E
    refine mix_pure E rfl rfl rfl (by decide) (fun w h => by first | exact rn_fieldAddr0 (q := 0) E rfl rfl rfl | exact rn_fieldAddr (q := 0) E rfl rfl rfl) ?_; clear E a; intro a E
    refine mix_pure E rfl rfl rfl (by decide) (fun w h => by first | exact rn_load E rfl rfl rfl (h.one (by repeat (first | exact mm1 | apply List.Mem.tail))) rfl | exact rn_loadc E rfl rfl rfl (by assumption)) ?_; clear E a; intro a E
    refine mix_pure E rfl rfl rfl (by decide) (fun w h => rn_move E rfl rfl) ?_; clear E a; intro a E
    refine mix_pure E rfl rfl rfl (by decide) (fun w h => rn_nilCheck E rfl rfl) ?_; clear E a; intro a E
    refine mix_pure E rfl rfl rfl (by decide) (fun w h => by first | exact rn_fieldAddr0 (q := 1) E rfl rfl rfl | exact rn_fieldAddr (q := 1) E rfl rfl rfl) ?_; clear E a; intro a E
    refine mix_pure E rfl rfl rfl (by decide) (fun w h => by first | exact rn_load E rfl rfl rfl (h.one (by repeat (first | exact mm1 | apply List.Mem.tail))) rfl | exact rn_loadc E rfl rfl rfl (by assumption)) ?_; clear E a; intro a E
    refine mix_pure E rfl rfl rfl (by decide) (fun w h => rn_move E rfl rfl) ?_; clear E a; intro a E
    refine mix_pure E rfl rfl rfl (by decide) (fun w h => rn_add E rfl rfl rfl (by first | exact wa1 (by omega) | exact w_in (by omega) | exact w_inu (by omega) | exact rfl)) ?_; clear E a; intro a E
    refine mix_pure E rfl rfl rfl (by decide) (fun w h => rn_move E rfl rfl) ?_; clear E a; intro a E
    refine mix_pure E rfl rfl rfl (by decide) (fun w h => rn_nilCheck E rfl rfl) ?_; clear E a; intro a E
    refine mix_pure E rfl rfl rfl (by decide) (fun w h => by first | exact rn_fieldAddr0 (q := 1) E rfl rfl rfl | exact rn_fieldAddr (q := 1) E rfl rfl rfl) ?_; clear E a; intro a E
    refine mix_pure E rfl rfl rfl (by decide) (fun w h => by first | exact rn_load E rfl rfl rfl (h.one (by repeat (first | exact mm1 | apply List.Mem.tail))) rfl | exact rn_loadc E rfl rfl rfl (by assumption)) ?_; clear E a; intro a E
    refine mix_pure E rfl rfl rfl (by decide) (fun w h => rn_move E rfl rfl) ?_; clear E a; intro a E
    refine mix_pure E rfl rfl rfl (by decide) (fun w h => rn_add E rfl rfl rfl (by first | exact wa1 (by omega) | exact w_in (by omega) | exact w_inu (by omega) | exact rfl)) ?_; clear E a; intro a E
    refine mix_pure E rfl rfl rfl (by decide) (fun w h => rn_move E rfl rfl) ?_; clear E a; intro a E
    refine mix_pure E rfl rfl rfl (by decide) (fun w h => rn_add E rfl rfl rfl (by first | exact wa1 (by omega) | exact w_in (by omega) | exact w_inu (by omega) | exact rfl)) ?_; clear E a; intro a E
    refine mix_pure E rfl rfl rfl (by decide) (fun w h => rn_slice_lh (s := 1) E rfl rfl rfl rfl rfl rfl rfl rfl (by omega) (by omega)) ?_; clear E a; intro a E
    obtain ⟨ad2, c2, hs2, hR2⟩ := hR.cut (lo := s.at_ + behind) (hi := s.at_ + behind + n) (by omega) (by omega) (by omega)
    rw [hs2] at E
    refine mix_pure E rfl rfl rfl (by decide) (fun w h => rn_assign E rfl rfl) ?_; clear E a; intro a E
    refine mix_pure E rfl rfl rfl (by decide) (fun w h => rn_assign E rfl rfl) ?_; clear E a; intro a E
    refine mix_nil ?_
    refine then_k hK ?_; clear hK; clear K
    refine wp_ret ?_
    refine ret2 E rfl rfl rfl ?_
    have S := S.join
    rw [← hAe] at S
    rw [Nat.mul_one, Nat.mul_one, show s.at_ + behind + n - (s.at_ + behind) = n by omega, byt_drop, byt_take] at hR2
    rw [show s.at_ + behind + n - (s.at_ + behind) = n by omega]
    exact ⟨_, rfl, S.tr, .inr ⟨by omega, ad2, c2, rfl, hR2.sub (by rw [hAe]; exact fun x hx => List.mem_append_right _ hx)⟩⟩

theorem rtry_no (p : Nat) (s : Rdr) (A : Chunk) (fv : Value) (w0 : World) (hA : RdC 100 p s A) (H : Hp w0 [A]) (he : s.e ≠ 0) :
    Ret Tryd.prog 59 #[ptr p, fv] w0 fun _ w' => w' = w0 := by
  obtain ⟨hat, hlen, ad, c, C, rfl, hR⟩ := hA
  have S := (St.begin H).split
  refine enter2 14 Tryd.func59 rfl rfl (by decide) ?_; intro a E
  refine wp_seq_k ?_; intro K hK
  refine region_list ?_
  refine list_pure E rfl rfl (by decide) (rn_move E rfl rfl) ?_; clear E a; intro a E
  refine list_pure E rfl rfl (by decide) (rn_nilCheck E rfl rfl) ?_; clear E a; intro a E
  refine list_pure E rfl rfl (by decide) (by first | exact rn_fieldAddr0 (q := 2) E rfl rfl rfl | exact rn_fieldAddr (q := 2) E rfl rfl rfl) ?_; clear E a; intro a E
  refine list_pure E rfl rfl (by decide) (by first | exact rn_load E rfl rfl rfl (S.get (by repeat (first | exact pk1 | apply pick_tail))) rfl | exact rn_loadc E rfl rfl rfl (by assumption)) ?_; clear E a; intro a E
  refine list_pure E rfl rfl (by decide) (by first | exact rn_eql E rfl rfl rfl | exact rn_eql_ptr_nil E rfl rfl rfl rfl | exact rn_eql_bool E rfl rfl rfl rfl | exact rn_eql_string E rfl rfl rfl) ?_; clear E a; intro a E
  refine wpList_nil ?_
  refine then_k hK ?_; clear hK; clear K
  refine if_bool E rfl (fun hb => ?_) (fun hb => ?_)
  · replace hb := Nrm.nrm hb
    exfalso; omega
  · replace hb := Nrm.nrm hb
    refine wp_skip ?_
    refine end0 E rfl ?_
    exact ⟨_, rfl, rfl⟩

theorem rtry_yes (s2 : Rdr) (X : List Chunk → Prop) (f : FuncId) (fn : Func) (cap : List Value) (hf : Tryd.prog.funcs[f]? = some fn) (hfb : fn.body.isSome = true) (hfn : (fn.name == "runtime.NumGoroutine") = false)
    (p : Nat) (s : Rdr) (A : Chunk) (Rs : List Chunk) (w0 : World) (hA : RdC 100 p s A) (H : Hp w0 (A :: Rs)) (he : s.e = 0)
    (hc : Ret Tryd.prog f cap.toArray w0 fun u w' => ∃ (e' at' : Nat) (A' : Chunk) (Rs' : List Chunk), u = .int .i64 e' ∧ RdC 100 p { s with at_ := at' } A' ∧ Trs w0 w' (A :: Rs) (A' :: Rs') ∧ s2 = { s with at_ := at', e := e' } ∧ X Rs') :
    Ret Tryd.prog 59 #[ptr p, .func (.func f) #[] cap.toArray] w0 fun _ w' => ∃ (A' : Chunk) (Rs' : List Chunk), RdC 100 p s2 A' ∧ Trs w0 w' (A :: Rs) (A' :: Rs') ∧ X Rs' := by
  obtain ⟨hat, hlen, ad, c, C, rfl, hR⟩ := hA
  have S := (St.begin H).split
  refine enter2 14 Tryd.func59 rfl rfl (by decide) ?_; intro a E
  refine wp_seq_k ?_; intro K hK
  refine region_list ?_
  refine list_pure E rfl rfl (by decide) (rn_move E rfl rfl) ?_; clear E a; intro a E
  refine list_pure E rfl rfl (by decide) (rn_nilCheck E rfl rfl) ?_; clear E a; intro a E
  refine list_pure E rfl rfl (by decide) (by first | exact rn_fieldAddr0 (q := 2) E rfl rfl rfl | exact rn_fieldAddr (q := 2) E rfl rfl rfl) ?_; clear E a; intro a E
  refine list_pure E rfl rfl (by decide) (by first | exact rn_load E rfl rfl rfl (S.get (by repeat (first | exact pk1 | apply pick_tail))) rfl | exact rn_loadc E rfl rfl rfl (by assumption)) ?_; clear E a; intro a E
  refine list_pure E rfl rfl (by decide) (by first | exact rn_eql E rfl rfl rfl | exact rn_eql_ptr_nil E rfl rfl rfl rfl | exact rn_eql_bool E rfl rfl rfl rfl | exact rn_eql_string E rfl rfl rfl) ?_; clear E a; intro a E
  refine wpList_nil ?_
  refine then_k hK ?_; clear hK; clear K
  refine if_bool E rfl (fun hb => ?_) (fun hb => ?_)
  · replace hb := Nrm.nrm hb
    refine region_list ?_
    refine list_pure E rfl rfl (by decide) (rn_move E rfl rfl) ?_; clear E a; intro a E
    refine list_pure E rfl rfl (by decide) (rn_move E rfl rfl) ?_; clear E a; intro a E
    refine list_callc E rfl rfl (by decide) rfl rfl hf hfb hfn rfl (hc) ?_
    rintro v11 w ⟨e', at', A', Rs', rfl, ⟨hat', hlen', ad', c', C', rfl, hR'⟩, hT, rfl, hX⟩; clear E a; intro a E
    have S := ((St.begin H).all hT).split
    refine list_pure E rfl rfl (by decide) (rn_nilCheck E rfl rfl) ?_; clear E a; intro a E
    refine list_pure E rfl rfl (by decide) (by first | exact rn_fieldAddr0 (q := 2) E rfl rfl rfl | exact rn_fieldAddr (q := 2) E rfl rfl rfl) ?_; clear E a; intro a E
    refine list_wp rfl (wp_store1 E S rfl rfl rfl rfl rfl rfl (by repeat (first | exact pk1 | apply pick_tail)) (by first | exact Nat.le_of_ble_eq_true rfl | (simp; done) | (simp; omega)) ?_); clear E S a; intro a w E S; try dsimp only [List.set] at S
    refine wpList_nil ?_
    refine end0 E rfl ?_
    exact ⟨_, rfl, _, Rs', ⟨hat', hlen', ad', c', C', rfl, hR'⟩, S.join.tr, hX⟩
  · replace hb := Nrm.nrm hb
    exfalso; omega

theorem rtry_ret (s2 : Rdr) (X : List Chunk → Prop) (f : FuncId) (fn : Func) (cap : List Value) (hf : Tryd.prog.funcs[f]? = some fn) (hfb : fn.body.isSome = true) (hfn : (fn.name == "runtime.NumGoroutine") = false)
    (p : Nat) (s : Rdr) (A : Chunk) (Rs : List Chunk) (w0 : World) (hA : RdC 100 p s A) (H : Hp w0 (A :: Rs)) (h0 : s.e ≠ 0 → s2 = s ∧ X Rs)
    (hc : s.e = 0 → Ret Tryd.prog f cap.toArray w0 fun u w' => ∃ (e' at' : Nat) (A' : Chunk) (Rs' : List Chunk), u = .int .i64 e' ∧ RdC 100 p { s with at_ := at' } A' ∧ Trs w0 w' (A :: Rs) (A' :: Rs') ∧ s2 = { s with at_ := at', e := e' } ∧ X Rs') :
    Ret Tryd.prog 59 #[ptr p, .func (.func f) #[] cap.toArray] w0 fun _ w' => ∃ (A' : Chunk) (Rs' : List Chunk), RdC 100 p s2 A' ∧ Trs w0 w' (A :: Rs) (A' :: Rs') ∧ X Rs' := by
  by_cases he : s.e = 0
  · exact rtry_yes s2 X f fn cap hf hfb hfn p s A Rs w0 hA H he (hc he)
  · refine (rtry_no p s A _ w0 hA (H.sel (Rs := Rs) (List.Perm.refl _)) he).mono ?_
    rintro _ w' rfl
    exact ⟨A, Rs, by rw [(h0 he).1]; exact hA, Trs.refl _ _, (h0 he).2⟩

theorem rnum_body (p : Nat) (s : Rdr) (A : Chunk) (w0 : World) (hA : RdC 100 p s A) (he : s.e = 0) (bk bp bo : Nat) (k : Int)
    (H : Hp w0 [A, [(bk, cel [.int .i64 k] 3)], [(bp, cel [ptr p] 67)], [(bo, cel [.int .u64 0] 66)]]) :
    Ret Tryd.prog 60 #[ptr bk, ptr bp, ptr bo] w0 fun u w' => ∃ (e' at' : Nat) (A' : Chunk) (Rs' : List Chunk), u = .int .i64 e' ∧ RdC 100 p { s with at_ := at' } A' ∧
      Trs w0 w' [A, [(bk, cel [.int .i64 k] 3)], [(bp, cel [ptr p] 67)], [(bo, cel [.int .u64 0] 66)]] (A' :: Rs') ∧ (s.num k).2 = { s with at_ := at', e := e' } ∧ ∃ L, Rs'.Perm ([(bo, cel [.int .u64 (s.num k).1] 66)] :: L) := by
  have S := St.begin H
  refine enter3 30 Tryd.func60 rfl rfl (by decide) ?_; intro a E
  refine wp_seq_k ?_; intro K hK
  refine region_list ?_
  refine list_pure E rfl rfl (by decide) (rn_assign E rfl rfl) ?_; clear E a; intro a E
  refine wpList_nil ?_
  refine then_k hK ?_; clear hK; clear K
  refine wp_seq_k ?_; intro K hK
  refine wp_seq_k ?_; intro K hK
  refine region_list ?_
  refine list_pure E rfl rfl (by decide) (by first | exact rn_load E rfl rfl rfl (S.get (by repeat (first | exact pk1 | apply pick_tail))) rfl | exact rn_loadc E rfl rfl rfl (by assumption)) ?_; clear E a; intro a E
  refine list_pure E rfl rfl (by decide) (rn_lss E rfl rfl rfl) ?_; clear E a; intro a E
  refine list_pure E rfl rfl (by decide) (rn_move E rfl rfl) ?_; clear E a; intro a E
  refine guard_split E (t := 8) rfl (fun hb8 => ?_) (fun hb8 => ?_)
  · have hb8n := hb8; replace hb8n := Nrm.nrm hb8n
    refine list_guard_no E rfl rfl rfl rfl hb8 rfl (by decide) ?_; clear E a; intro a E
    refine list_guard_no E rfl rfl rfl rfl hb8 rfl (by decide) ?_; clear E a; intro a E
    refine list_pure E rfl rfl (by decide) (rn_pick_yes' E rfl rfl hb8 rfl) ?_; clear E a; intro a E
    refine wpList_nil ?_
    refine then_k hK ?_; clear hK; clear K
    refine if_true' E rfl rfl ?_
    refine wp_seq_k ?_; intro K hK
    refine region_list ?_
    refine list_pure E rfl rfl (by decide) (rn_assign E rfl rfl) ?_; clear E a; intro a E
    refine wpList_nil ?_
    refine then_k hK ?_; clear hK; clear K
    refine wp_ret ?_
    refine then_ret ?_; clear hK; clear K
    refine ret1 E rfl rfl ?_
    have hv : s.num k = (0, { s with e := 1 }) := by simp [Rdr.num, he, show k < 1 ∨ 8 < k by omega]
    exact ⟨_, rfl, 1, s.at_, A, _, rfl, hA, (S.only (Bs := [A, [(bo, cel [.int .u64 0] 66)]]) (sel_cons (by repeat (first | exact pk1 | apply pick_tail)) (sel_cons (by repeat (first | exact pk1 | apply pick_tail)) (sel_nil _)))).tr, by rw [hv], [], by first | (rw [hv]; done) | (rw [hv]; exact pk1)⟩
  · have hb8n := hb8; replace hb8n := Nrm.nrm hb8n
    refine list_guard_yes E rfl rfl rfl rfl hb8 rfl (by decide) (by first | exact rn_load E rfl rfl rfl (S.get (by repeat (first | exact pk1 | apply pick_tail))) rfl | exact rn_loadc E rfl rfl rfl (by assumption)) ?_; clear E a; intro a E
    refine list_guard_yes E rfl rfl rfl rfl hb8 rfl (by decide) (rn_gtr E rfl rfl rfl) ?_; clear E a; intro a E
    refine list_pure E rfl rfl (by decide) (rn_pick_no' E rfl rfl hb8 rfl) ?_; clear E a; intro a E
    refine wpList_nil ?_
    refine then_k hK ?_; clear hK; clear K
    refine if_bool E rfl (fun hb => ?_) (fun hb => ?_)
    · replace hb := Nrm.nrm hb
      refine wp_seq_k ?_; intro K hK
      refine region_list ?_
      refine list_pure E rfl rfl (by decide) (rn_assign E rfl rfl) ?_; clear E a; intro a E
      refine wpList_nil ?_
      refine then_k hK ?_; clear hK; clear K
      refine wp_ret ?_
      refine then_ret ?_; clear hK; clear K
      refine ret1 E rfl rfl ?_
      have hv : s.num k = (0, { s with e := 1 }) := by simp [Rdr.num, he, show k < 1 ∨ 8 < k by omega]
      exact ⟨_, rfl, 1, s.at_, A, _, rfl, hA, (S.only (Bs := [A, [(bo, cel [.int .u64 0] 66)]]) (sel_cons (by repeat (first | exact pk1 | apply pick_tail)) (sel_cons (by repeat (first | exact pk1 | apply pick_tail)) (sel_nil _)))).tr, by rw [hv], [], by first | (rw [hv]; done) | (rw [hv]; exact pk1)⟩
    · replace hb := Nrm.nrm hb
      refine wp_skip ?_
      refine then_k hK ?_; clear hK; clear K
      refine wp_seq_k ?_; intro K hK
      obtain ⟨kn, rfl⟩ : ∃ kn : Nat, k = kn := ⟨k.toNat, by omega⟩
      refine region_list ?_
      refine list_pure E rfl rfl (by decide) (by first | exact rn_load E rfl rfl rfl (S.get (by repeat (first | exact pk1 | apply pick_tail))) rfl | exact rn_loadc E rfl rfl rfl (by assumption)) ?_; clear E a; intro a E
      refine list_pure E rfl rfl (by decide) (by first | exact rn_load E rfl rfl rfl (S.get (by repeat (first | exact pk1 | apply pick_tail))) rfl | exact rn_loadc E rfl rfl rfl (by assumption)) ?_; clear E a; intro a E
      refine list_call E rfl rfl (by decide) rfl Tryd.func61 rfl (by kernel_rfl) rfl (take_ret p s A _ hA (S.hp.sel (sel_cons (by repeat (first | exact pk1 | apply pick_tail)) (sel_nil _))) kn 0 (by omega) (by omega)) ?_
      rintro v15 w ⟨hT, hres⟩; clear E a; intro a E
      have S := S.call1 (sel_cons (by repeat (first | exact pk1 | apply pick_tail)) (sel_nil _)) hT
      rcases hres with ⟨hlt, rfl⟩ | ⟨hle, adb, cb, rfl, hR⟩
      · skip
        refine list_pure E rfl rfl (by decide) (rn_move E rfl rfl) ?_; clear E a; intro a E
        refine list_pure E rfl rfl (by decide) (rn_extract E rfl rfl rfl) ?_; clear E a; intro a E
        refine list_pure E rfl rfl (by decide) (rn_extract E rfl rfl rfl) ?_; clear E a; intro a E
        refine list_pure E rfl rfl (by decide) (rn_assign E rfl rfl) ?_; clear E a; intro a E
        refine list_pure E rfl rfl (by decide) (rn_assign E rfl rfl) ?_; clear E a; intro a E
        refine wpList_nil ?_
        refine then_k hK ?_; clear hK; clear K
        refine wp_seq_k ?_; intro K hK
        refine wp_seq_k ?_; intro K hK
        refine region_list ?_
        refine list_pure E rfl rfl (by decide) (rn_move E rfl rfl) ?_; clear E a; intro a E
        refine list_pure E rfl rfl (by decide) (rn_not E rfl rfl) ?_; clear E a; intro a E
        refine wpList_nil ?_
        refine then_k hK ?_; clear hK; clear K
        refine if_true' E rfl (rfl) ?_
        refine wp_seq_k ?_; intro K hK
        refine region_list ?_
        refine list_pure E rfl rfl (by decide) (rn_assign E rfl rfl) ?_; clear E a; intro a E
        refine wpList_nil ?_
        refine then_k hK ?_; clear hK; clear K
        refine wp_ret ?_
        refine then_ret ?_; clear hK; clear K
        refine ret1 E rfl rfl ?_
        have hv : s.num kn = (0, { s with e := 10 }) := by simp [Rdr.num, he, show ¬ ((kn : Int) < 1 ∨ 8 < (kn : Int)) by omega, show s.bs.length < s.at_ + kn by omega]
        exact ⟨_, rfl, 10, s.at_, A, _, rfl, hA, (S.only (Bs := [A, [(bo, cel [.int .u64 0] 66)]]) (sel_cons (by repeat (first | exact pk1 | apply pick_tail)) (sel_cons (by repeat (first | exact pk1 | apply pick_tail)) (sel_nil _)))).tr, by rw [hv], [], by first | (rw [hv]; done) | (rw [hv]; exact pk1)⟩
      · skip
        refine list_pure E rfl rfl (by decide) (rn_move E rfl rfl) ?_; clear E a; intro a E
        refine list_pure E rfl rfl (by decide) (rn_extract E rfl rfl rfl) ?_; clear E a; intro a E
        refine list_pure E rfl rfl (by decide) (rn_extract E rfl rfl rfl) ?_; clear E a; intro a E
        refine list_pure E rfl rfl (by decide) (rn_assign E rfl rfl) ?_; clear E a; intro a E
        refine list_pure E rfl rfl (by decide) (rn_assign E rfl rfl) ?_; clear E a; intro a E
        refine wpList_nil ?_
        refine then_k hK ?_; clear hK; clear K
        refine wp_seq_k ?_; intro K hK
        refine wp_seq_k ?_; intro K hK
        refine region_list ?_
        refine list_pure E rfl rfl (by decide) (rn_move E rfl rfl) ?_; clear E a; intro a E
        refine list_pure E rfl rfl (by decide) (rn_not E rfl rfl) ?_; clear E a; intro a E
        refine wpList_nil ?_
        refine then_k hK ?_; clear hK; clear K
        refine if_false' E rfl (rfl) ?_
        refine wp_skip ?_
        refine then_k hK ?_; clear hK; clear K
        refine wp_seq_k ?_; intro K hK
        refine region_list ?_
        refine list_pure E rfl rfl (by decide) (rn_move E rfl rfl) ?_; clear E a; intro a E
        refine list_call E rfl rfl (by decide) rfl Tryd.func62 rfl (by kernel_rfl) rfl (value_ret A _ (s.cut kn 0) _ (by rw [s.cut_length kn 0 hle]; exact hR) (S.stab.at (by repeat (first | exact mm1 | apply List.Mem.tail))) (by rw [s.cut_length kn 0 hle]; omega)) ?_
        rintro v21 w ⟨rfl, rfl⟩; clear E a; intro a E
        refine list_wp rfl (wp_store1 E S rfl rfl rfl rfl rfl rfl (by repeat (first | exact pk1 | apply pick_tail)) (by first | exact Nat.le_of_ble_eq_true rfl | (simp; done) | (simp; omega)) ?_); clear E S a; intro a w E S; try dsimp only [List.set] at S
        refine wpList_nil ?_
        obtain ⟨hat, hlen, ad, c, C, rfl, hc, hRC⟩ := hA
        have S := (S.perm (Bs := [[(p, cel [.slice ad s.bs.length c, .int .i64 s.at_, .int .i64 s.e] 100)] ++ C, _, _, _]) (sel_cons (by repeat (first | exact pk1 | apply pick_tail)) (sel_cons (by repeat (first | exact pk1 | apply pick_tail)) (sel_cons (by repeat (first | exact pk1 | apply pick_tail)) (sel_cons (by repeat (first | exact pk1 | apply pick_tail)) (sel_nil _)))))).split
        refine then_k hK ?_; clear hK; clear K
        refine wp_seq_k ?_; intro K hK
        refine region_mix0 S (.ofL [(0, 0), (1, 0), (2, 0), (3, 0), (4, 0), (5, 0), (6, 0), (7, 0), (8, 3)]) (by kernel_rfl) (by kernel_rfl) ?_
        clear S; intro w S
        refine mix_pure E rfl rfl rfl (by decide) (fun w h => by first | exact rn_load E rfl rfl rfl (h.one (by repeat (first | exact mm1 | apply List.Mem.tail))) rfl | exact rn_loadc E rfl rfl rfl (by assumption)) ?_; clear E a; intro a E
        refine mix_pure E rfl rfl rfl (by decide) (fun w h => rn_nilCheck E rfl rfl) ?_; clear E a; intro a E
        refine mix_pure E rfl rfl rfl (by decide) (fun w h => by first | exact rn_fieldAddr0 (q := 1) E rfl rfl rfl | exact rn_fieldAddr (q := 1) E rfl rfl rfl) ?_; clear E a; intro a E
        refine mix_pure E rfl rfl rfl (by decide) (fun w h => by first | exact rn_load E rfl rfl rfl (h.one (by repeat (first | exact mm1 | apply List.Mem.tail))) rfl | exact rn_loadc E rfl rfl rfl (by assumption)) ?_; clear E a; intro a E
        refine mix_pure E rfl rfl rfl (by decide) (fun w h => by first | exact rn_load E rfl rfl rfl (h.one (by repeat (first | exact mm1 | apply List.Mem.tail))) rfl | exact rn_loadc E rfl rfl rfl (by assumption)) ?_; clear E a; intro a E
        refine mix_pure E rfl rfl rfl (by decide) (fun w h => rn_add E rfl rfl rfl (by first | exact wa1 (by omega) | exact w_in (by omega) | exact w_inu (by omega) | exact rfl)) ?_; clear E a; intro a E
        refine mix_pure E rfl rfl rfl (by decide) (fun w h => rn_nilCheck E rfl rfl) ?_; clear E a; intro a E
        refine mix_pure E rfl rfl rfl (by decide) (fun w h => by first | exact rn_fieldAddr0 (q := 1) E rfl rfl rfl | exact rn_fieldAddr (q := 1) E rfl rfl rfl) ?_; clear E a; intro a E
        refine mix_last rfl rfl (wp_store1 E S rfl rfl rfl rfl rfl rfl (by repeat (first | exact pk1 | apply pick_tail)) (by first | exact Nat.le_of_ble_eq_true rfl | (simp; done) | (simp; omega)) ?_); clear E S a; intro a w E S; try dsimp only [List.set] at S
        refine mix_nil ?_
        refine then_k hK ?_; clear hK; clear K
        refine wp_seq_k ?_; intro K hK
        replace E := E.keep (e' := [(3, _)]) (keep_cons rfl (keep_nil))
        refine region_list ?_
        refine list_pure E rfl rfl (by decide) (rn_assign E rfl rfl) ?_; clear E a; intro a E
        refine wpList_nil ?_
        refine then_k hK ?_; clear hK; clear K
        refine wp_ret ?_
        refine ret1 E rfl rfl ?_
        have hv : s.num kn = (numOf (s.cut kn 0), { s with at_ := s.at_ + kn }) := by simp [Rdr.num, he, show ¬ ((kn : Int) < 1 ∨ 8 < (kn : Int)) by omega, show ¬ s.bs.length < s.at_ + kn by omega]
        exact ⟨_, rfl, 0, s.at_ + kn, _, _, rfl, ⟨by simp only; omega, hlen, ad, c, C, rfl, hc, hRC⟩, S.join.tr, by rw [hv, ← he], _, by first | (rw [hv]; done) | (rw [hv]; exact pk1)⟩

theorem rnum_ret (p : Nat) (s : Rdr) (A : Chunk) (w0 : World) (hA : RdC 100 p s A) (H : Hp w0 [A]) (k : Int) :
    Ret Tryd.prog 33 #[ptr p, .int .i64 k] w0 fun u w' => ∃ A', u = .int .u64 (s.num k).1 ∧ RdC 100 p (s.num k).2 A' ∧ Trs w0 w' [A] [A'] := by
  have S := St.begin H
  refine enter2 10 Tryd.func33 rfl rfl (by decide) ?_; intro a E
  refine wp_seq_k ?_; intro K hK
  refine region_list ?_
  refine list_wp rfl (wp_box E S rfl rfl (by decide) rfl rfl ?_); clear E S a; intro a w b2 E S
  refine list_wp rfl (wp_box E S rfl rfl (by decide) rfl rfl ?_); clear E S a; intro a w b3 E S
  refine list_pure E rfl rfl (by decide) (rn_assign E rfl rfl) ?_; clear E a; intro a E
  refine wpList_nil ?_
  refine then_k hK ?_; clear hK; clear K
  refine wp_seq_k ?_; intro K hK
  refine region_list ?_
  refine list_wp rfl (wp_alloc E S rfl rfl (by decide) rfl rfl rfl ?_); clear E S a; intro a w b5 E S
  refine wpList_nil ?_
  refine then_k hK ?_; clear hK; clear K
  refine wp_seq_k ?_; intro K hK
  have S := S.perm (Bs := [A, [(b3, cel [.int .i64 k] 3)], [(b2, cel [ptr p] 67)], [(b5, cel [.int .u64 0] 66)]]) (sel_cons (by repeat (first | exact pk1 | apply pick_tail)) (sel_cons (by repeat (first | exact pk1 | apply pick_tail)) (sel_cons (by repeat (first | exact pk1 | apply pick_tail)) (sel_cons (by repeat (first | exact pk1 | apply pick_tail)) (sel_nil _)))))
  refine region_list ?_
  refine list_pure E rfl rfl (by decide) (by first | exact rn_load E rfl rfl rfl (S.get (by repeat (first | exact pk1 | apply pick_tail))) rfl | exact rn_loadc E rfl rfl rfl (by assumption)) ?_; clear E a; intro a E
  refine list_pure E rfl rfl (by decide) (rn_makeFunc E rfl rfl ⟨_, rfl⟩) ?_; clear E a; intro a E
  refine list_call E rfl rfl (by decide) rfl Tryd.func59 rfl (by kernel_rfl) rfl (rtry_ret (s.num k).2 (fun Rs' => ∃ L, Rs'.Perm ([(b5, cel [.int .u64 (s.num k).1] 66)] :: L)) 60 _ [ptr b3, ptr b2, ptr b5] Tryd.func60 rfl (by kernel_rfl) p s A [[(b3, cel [.int .i64 k] 3)], [(b2, cel [ptr p] 67)], [(b5, cel [.int .u64 0] 66)]] w hA S.hp (fun h => ⟨by simp [Rdr.num, h], _, by simp only [Rdr.num, h, if_true, ne_eq, not_false_eq_true]; exact pk3⟩) (fun h => rnum_body p s A w hA h b3 b2 b5 k S.hp)) ?_
  rintro v8 w ⟨A', Rs', hA', hT, L, hL⟩; clear E a; intro a E
  have S := (S.all hT).perm (hL.cons A')
  refine wpList_nil ?_
  refine then_k hK ?_; clear hK; clear K
  refine wp_seq_k ?_; intro K hK
  refine region_list ?_
  refine list_pure E rfl rfl (by decide) (by first | exact rn_load E rfl rfl rfl (S.get (by repeat (first | exact pk1 | apply pick_tail))) rfl | exact rn_loadc E rfl rfl rfl (by assumption)) ?_; clear E a; intro a E
  refine list_pure E rfl rfl (by decide) (rn_assign E rfl rfl) ?_; clear E a; intro a E
  refine wpList_nil ?_
  refine then_k hK ?_; clear hK; clear K
  refine wp_ret ?_
  refine ret1 E rfl rfl ?_
  exact ⟨_, rfl, A', rfl, hA', (S.only (Bs := [A']) (sel_cons (by repeat (first | exact pk1 | apply pick_tail)) (sel_nil _))).tr⟩

theorem rbytes_body (p : Nat) (s : Rdr) (A : Chunk) (w0 : World) (hA : RdC 100 p s A) (he : s.e = 0) (bk bp bo : Nat) (k : Int) (hk : k ≤ 9223372036854775807)
    (H : Hp w0 [A, [(bk, cel [.int .i64 k] 3)], [(bp, cel [ptr p] 67)], [(bo, cel [.slice none 0 0] 22)], []]) :
    Ret Tryd.prog 83 #[ptr bk, ptr bp, ptr bo] w0 fun u w' => ∃ (e' at' : Nat) (A' : Chunk) (Rs' : List Chunk), u = .int .i64 e' ∧ RdC 100 p { s with at_ := at' } A' ∧
      Trs w0 w' [A, [(bk, cel [.int .i64 k] 3)], [(bp, cel [ptr p] 67)], [(bo, cel [.slice none 0 0] 22)], []] (A' :: Rs') ∧ (s.bytes k).2 = { s with at_ := at', e := e' } ∧
      ∃ v C L, Rs'.Perm ([(bo, cel [v] 22)] :: C :: L) ∧ Buf C 5 1 v (s.bytes k).1.length (byt (s.bytes k).1) := by
  have S := St.begin H
  refine enter3 26 Tryd.func83 rfl rfl (by decide) ?_; intro a E
  refine wp_seq_k ?_; intro K hK
  refine region_list ?_
  refine list_pure E rfl rfl (by decide) (rn_assign E rfl rfl) ?_; clear E a; intro a E
  refine wpList_nil ?_
  refine then_k hK ?_; clear hK; clear K
  refine wp_seq_k ?_; intro K hK
  refine wp_seq_k ?_; intro K hK
  refine region_list ?_
  refine list_pure E rfl rfl (by decide) (by first | exact rn_load E rfl rfl rfl (S.get (by repeat (first | exact pk1 | apply pick_tail))) rfl | exact rn_loadc E rfl rfl rfl (by assumption)) ?_; clear E a; intro a E
  refine list_pure E rfl rfl (by decide) (rn_lss E rfl rfl rfl) ?_; clear E a; intro a E
  refine wpList_nil ?_
  refine then_k hK ?_; clear hK; clear K
  refine if_bool E rfl (fun hb => ?_) (fun hb => ?_)
  · replace hb := Nrm.nrm hb
    refine wp_seq_k ?_; intro K hK
    refine region_list ?_
    refine list_pure E rfl rfl (by decide) (rn_assign E rfl rfl) ?_; clear E a; intro a E
    refine wpList_nil ?_
    refine then_k hK ?_; clear hK; clear K
    refine wp_ret ?_
    refine then_ret ?_; clear hK; clear K
    refine ret1 E rfl rfl ?_
    have hv : s.bytes k = ([], { s with e := 1 }) := by simp [Rdr.bytes, he, show k < 0 by omega]
    exact ⟨_, rfl, 1, s.at_, A, _, rfl, hA, (S.only (Bs := [A, [(bo, cel [.slice none 0 0] 22)], []]) (sel_cons (by repeat (first | exact pk1 | apply pick_tail)) (sel_cons (by repeat (first | exact pk1 | apply pick_tail)) (sel_cons (by repeat (first | exact pk1 | apply pick_tail)) (sel_nil _))))).tr, by rw [hv], _, [], [], pk1, by rw [hv]; exact Buf.nil _ _⟩
  · replace hb := Nrm.nrm hb
    refine wp_skip ?_
    refine then_k hK ?_; clear hK; clear K
    refine wp_seq_k ?_; intro K hK
    obtain ⟨kn, rfl⟩ : ∃ kn : Nat, k = kn := ⟨k.toNat, by omega⟩
    refine region_list ?_
    refine list_pure E rfl rfl (by decide) (by first | exact rn_load E rfl rfl rfl (S.get (by repeat (first | exact pk1 | apply pick_tail))) rfl | exact rn_loadc E rfl rfl rfl (by assumption)) ?_; clear E a; intro a E
    refine list_pure E rfl rfl (by decide) (by first | exact rn_load E rfl rfl rfl (S.get (by repeat (first | exact pk1 | apply pick_tail))) rfl | exact rn_loadc E rfl rfl rfl (by assumption)) ?_; clear E a; intro a E
    refine list_call E rfl rfl (by decide) rfl Tryd.func61 rfl (by kernel_rfl) rfl (take_ret p s A _ hA (S.hp.sel (sel_cons (by repeat (first | exact pk1 | apply pick_tail)) (sel_nil _))) kn 0 (by omega) (by omega)) ?_
    rintro v11 w ⟨hT, hres⟩; clear E a; intro a E
    have S := S.call1 (sel_cons (by repeat (first | exact pk1 | apply pick_tail)) (sel_nil _)) hT
    rcases hres with ⟨hlt, rfl⟩ | ⟨hle, adb, cb, rfl, hR⟩
    · skip
      refine list_pure E rfl rfl (by decide) (rn_move E rfl rfl) ?_; clear E a; intro a E
      refine list_pure E rfl rfl (by decide) (rn_extract E rfl rfl rfl) ?_; clear E a; intro a E
      refine list_pure E rfl rfl (by decide) (rn_extract E rfl rfl rfl) ?_; clear E a; intro a E
      refine list_pure E rfl rfl (by decide) (rn_assign E rfl rfl) ?_; clear E a; intro a E
      refine list_pure E rfl rfl (by decide) (rn_assign E rfl rfl) ?_; clear E a; intro a E
      refine wpList_nil ?_
      refine then_k hK ?_; clear hK; clear K
      refine wp_seq_k ?_; intro K hK
      refine wp_seq_k ?_; intro K hK
      refine region_list ?_
      refine list_pure E rfl rfl (by decide) (rn_move E rfl rfl) ?_; clear E a; intro a E
      refine list_pure E rfl rfl (by decide) (rn_not E rfl rfl) ?_; clear E a; intro a E
      refine wpList_nil ?_
      refine then_k hK ?_; clear hK; clear K
      refine if_true' E rfl (rfl) ?_
      refine wp_seq_k ?_; intro K hK
      refine region_list ?_
      refine list_pure E rfl rfl (by decide) (rn_assign E rfl rfl) ?_; clear E a; intro a E
      refine wpList_nil ?_
      refine then_k hK ?_; clear hK; clear K
      refine wp_ret ?_
      refine then_ret ?_; clear hK; clear K
      refine ret1 E rfl rfl ?_
      have hv : s.bytes kn = ([], { s with e := 10 }) := by simp [Rdr.bytes, he, show s.bs.length < s.at_ + kn by omega, show ¬ (kn : Int) < 0 by omega]
      exact ⟨_, rfl, 10, s.at_, A, _, rfl, hA, (S.only (Bs := [A, [(bo, cel [.slice none 0 0] 22)], []]) (sel_cons (by repeat (first | exact pk1 | apply pick_tail)) (sel_cons (by repeat (first | exact pk1 | apply pick_tail)) (sel_cons (by repeat (first | exact pk1 | apply pick_tail)) (sel_nil _))))).tr, by rw [hv], _, [], [], pk1, by rw [hv]; exact Buf.nil _ _⟩
    · skip
      refine list_pure E rfl rfl (by decide) (rn_move E rfl rfl) ?_; clear E a; intro a E
      refine list_pure E rfl rfl (by decide) (rn_extract E rfl rfl rfl) ?_; clear E a; intro a E
      refine list_pure E rfl rfl (by decide) (rn_extract E rfl rfl rfl) ?_; clear E a; intro a E
      refine list_pure E rfl rfl (by decide) (rn_assign E rfl rfl) ?_; clear E a; intro a E
      refine list_pure E rfl rfl (by decide) (rn_assign E rfl rfl) ?_; clear E a; intro a E
      refine wpList_nil ?_
      refine then_k hK ?_; clear hK; clear K
      refine wp_seq_k ?_; intro K hK
      refine wp_seq_k ?_; intro K hK
      refine region_list ?_
      refine list_pure E rfl rfl (by decide) (rn_move E rfl rfl) ?_; clear E a; intro a E
      refine list_pure E rfl rfl (by decide) (rn_not E rfl rfl) ?_; clear E a; intro a E
      refine wpList_nil ?_
      refine then_k hK ?_; clear hK; clear K
      refine if_false' E rfl (rfl) ?_
      refine wp_skip ?_
      refine then_k hK ?_; clear hK; clear K
      refine wp_seq_k ?_; intro K hK
      have hlen := hA.2.1
      refine region_list ?_
      refine list_pure E rfl rfl (by decide) (rn_move E rfl rfl) ?_; clear E a; intro a E
      refine list_call E rfl rfl (by decide) rfl Tryd.func58 rfl (by kernel_rfl) rfl (copied_ret A _ (s.cut kn 0) _ (by rw [s.cut_length kn 0 hle]; exact hR) (S.hp.sel (sel_cons (by repeat (first | exact pk1 | apply pick_tail)) (sel_nil _))) (by rw [s.cut_length kn 0 hle]; omega)) ?_
      rintro v17 w ⟨g, rfl, hT⟩; clear E a; intro a E
      have S := S.call2 (sel_cons (by repeat (first | exact pk1 | apply pick_tail)) (sel_nil _)) hT
      refine list_wp rfl (wp_store1 E S rfl rfl rfl rfl rfl rfl (by repeat (first | exact pk1 | apply pick_tail)) (by first | exact Nat.le_of_ble_eq_true rfl | (simp; done) | (simp; omega)) ?_); clear E S a; intro a w E S; try dsimp only [List.set] at S
      refine wpList_nil ?_
      obtain ⟨hat, hlen, ad, c, C, rfl, hc, hRC⟩ := hA
      have S := (S.only (Bs := [[(p, cel [.slice ad s.bs.length c, .int .i64 s.at_, .int .i64 s.e] 100)] ++ C, [(bk, cel [.int .i64 kn] 3)], [(bp, cel [ptr p] 67)], [(bo, _)], [(g, _)]]) (sel_cons (by repeat (first | exact pk1 | apply pick_tail)) (sel_cons (by repeat (first | exact pk1 | apply pick_tail)) (sel_cons (by repeat (first | exact pk1 | apply pick_tail)) (sel_cons (by repeat (first | exact pk1 | apply pick_tail)) (sel_cons (by repeat (first | exact pk1 | apply pick_tail)) (sel_nil _))))))).split
      refine then_k hK ?_; clear hK; clear K
      refine wp_seq_k ?_; intro K hK
      refine region_mix0 S (.ofL [(0, 0), (1, 0), (2, 0), (3, 0), (4, 0), (5, 0), (6, 0), (7, 0), (8, 3)]) (by kernel_rfl) (by kernel_rfl) ?_
      clear S; intro w S
      refine mix_pure E rfl rfl rfl (by decide) (fun w h => by first | exact rn_load E rfl rfl rfl (h.one (by repeat (first | exact mm1 | apply List.Mem.tail))) rfl | exact rn_loadc E rfl rfl rfl (by assumption)) ?_; clear E a; intro a E
      refine mix_pure E rfl rfl rfl (by decide) (fun w h => rn_nilCheck E rfl rfl) ?_; clear E a; intro a E
      refine mix_pure E rfl rfl rfl (by decide) (fun w h => by first | exact rn_fieldAddr0 (q := 1) E rfl rfl rfl | exact rn_fieldAddr (q := 1) E rfl rfl rfl) ?_; clear E a; intro a E
      refine mix_pure E rfl rfl rfl (by decide) (fun w h => by first | exact rn_load E rfl rfl rfl (h.one (by repeat (first | exact mm1 | apply List.Mem.tail))) rfl | exact rn_loadc E rfl rfl rfl (by assumption)) ?_; clear E a; intro a E
      refine mix_pure E rfl rfl rfl (by decide) (fun w h => by first | exact rn_load E rfl rfl rfl (h.one (by repeat (first | exact mm1 | apply List.Mem.tail))) rfl | exact rn_loadc E rfl rfl rfl (by assumption)) ?_; clear E a; intro a E
      refine mix_pure E rfl rfl rfl (by decide) (fun w h => rn_add E rfl rfl rfl (by first | exact wa1 (by omega) | exact w_in (by omega) | exact w_inu (by omega) | exact rfl)) ?_; clear E a; intro a E
      refine mix_pure E rfl rfl rfl (by decide) (fun w h => rn_nilCheck E rfl rfl) ?_; clear E a; intro a E
      refine mix_pure E rfl rfl rfl (by decide) (fun w h => by first | exact rn_fieldAddr0 (q := 1) E rfl rfl rfl | exact rn_fieldAddr (q := 1) E rfl rfl rfl) ?_; clear E a; intro a E
      refine mix_last rfl rfl (wp_store1 E S rfl rfl rfl rfl rfl rfl (by repeat (first | exact pk1 | apply pick_tail)) (by first | exact Nat.le_of_ble_eq_true rfl | (simp; done) | (simp; omega)) ?_); clear E S a; intro a w E S; try dsimp only [List.set] at S
      refine mix_nil ?_
      refine then_k hK ?_; clear hK; clear K
      refine wp_seq_k ?_; intro K hK
      replace E := E.keep (e' := [(3, _)]) (keep_cons rfl (keep_nil))
      refine region_list ?_
      refine list_pure E rfl rfl (by decide) (rn_assign E rfl rfl) ?_; clear E a; intro a E
      refine wpList_nil ?_
      refine then_k hK ?_; clear hK; clear K
      refine wp_ret ?_
      refine ret1 E rfl rfl ?_
      have hv : s.bytes kn = (s.cut kn 0, { s with at_ := s.at_ + kn }) := by simp [Rdr.bytes, he, show ¬ (kn : Int) < 0 by omega, show ¬ s.bs.length < s.at_ + kn by omega]
      refine ⟨_, rfl, 0, s.at_ + kn, _, _, rfl, ⟨by simp only; omega, hlen, ad, c, C, rfl, hc, hRC⟩, (S.join.only (Bs := [_, [(bo, _)], [(g, _)]]) (sel_cons (by repeat (first | exact pk1 | apply pick_tail)) (sel_cons (by repeat (first | exact pk1 | apply pick_tail)) (sel_cons (by repeat (first | exact pk1 | apply pick_tail)) (sel_nil _))))).tr, by rw [hv, ← he], _, _, [], pk1, ?_⟩
      rw [hv]
      exact buf_block rfl (by rw [s.cut_length kn 0 hle]; omega)

theorem rbytes_ret (p : Nat) (s : Rdr) (A : Chunk) (w0 : World) (hA : RdC 100 p s A) (H : Hp w0 [A]) (k : Int) (hk : k ≤ 9223372036854775807) :
    Ret Tryd.prog 66 #[ptr p, .int .i64 k] w0 fun u w' => ∃ A' C, RdC 100 p (s.bytes k).2 A' ∧ Trs w0 w' [A] [A', C] ∧ Buf C 5 1 u (s.bytes k).1.length (byt (s.bytes k).1) := by
  have S := St.begin H
  refine enter2 10 Tryd.func66 rfl rfl (by decide) ?_; intro a E
  refine wp_seq_k ?_; intro K hK
  refine region_list ?_
  refine list_wp rfl (wp_box E S rfl rfl (by decide) rfl rfl ?_); clear E S a; intro a w b2 E S
  refine list_wp rfl (wp_box E S rfl rfl (by decide) rfl rfl ?_); clear E S a; intro a w b3 E S
  refine list_pure E rfl rfl (by decide) (rn_assign E rfl rfl) ?_; clear E a; intro a E
  refine wpList_nil ?_
  refine then_k hK ?_; clear hK; clear K
  refine wp_seq_k ?_; intro K hK
  refine region_list ?_
  refine list_wp rfl (wp_alloc E S rfl rfl (by decide) rfl rfl rfl ?_); clear E S a; intro a w b5 E S
  refine wpList_nil ?_
  refine then_k hK ?_; clear hK; clear K
  refine wp_seq_k ?_; intro K hK
  have S := S.addNil.perm (Bs := [A, [(b3, cel [.int .i64 k] 3)], [(b2, cel [ptr p] 67)], [(b5, cel [.slice none 0 0] 22)], []]) (sel_cons (by repeat (first | exact pk1 | apply pick_tail)) (sel_cons (by repeat (first | exact pk1 | apply pick_tail)) (sel_cons (by repeat (first | exact pk1 | apply pick_tail)) (sel_cons (by repeat (first | exact pk1 | apply pick_tail)) (sel_cons (by repeat (first | exact pk1 | apply pick_tail)) (sel_nil _))))))
  refine region_list ?_
  refine list_pure E rfl rfl (by decide) (by first | exact rn_load E rfl rfl rfl (S.get (by repeat (first | exact pk1 | apply pick_tail))) rfl | exact rn_loadc E rfl rfl rfl (by assumption)) ?_; clear E a; intro a E
  refine list_pure E rfl rfl (by decide) (rn_makeFunc E rfl rfl ⟨_, rfl⟩) ?_; clear E a; intro a E
  refine list_call E rfl rfl (by decide) rfl Tryd.func59 rfl (by kernel_rfl) rfl (rtry_ret (s.bytes k).2 (fun Rs' => ∃ v C L, Rs'.Perm ([(b5, cel [v] 22)] :: C :: L) ∧ Buf C 5 1 v (s.bytes k).1.length (byt (s.bytes k).1)) 83 _ [ptr b3, ptr b2, ptr b5] Tryd.func83 rfl (by kernel_rfl) p s A [[(b3, cel [.int .i64 k] 3)], [(b2, cel [ptr p] 67)], [(b5, cel [.slice none 0 0] 22)], []] w hA S.hp (fun h => ⟨by simp [Rdr.bytes, h], _, [], _, pk3.trans (pk3.cons _), by simp only [Rdr.bytes, h, if_true, ne_eq, not_false_eq_true]; exact Buf.nil _ _⟩) (fun h => rbytes_body p s A w hA h b3 b2 b5 k hk S.hp)) ?_
  rintro v8 w ⟨A', Rs', hA', hT, v, C, L, hL, hB⟩; clear E a; intro a E
  have S := (S.all hT).perm (hL.cons A')
  obtain ⟨adv, cv, rfl⟩ := hB.slice
  refine wpList_nil ?_
  refine then_k hK ?_; clear hK; clear K
  refine wp_seq_k ?_; intro K hK
  refine region_list ?_
  refine list_pure E rfl rfl (by decide) (by first | exact rn_load E rfl rfl rfl (S.get (by repeat (first | exact pk1 | apply pick_tail))) rfl | exact rn_loadc E rfl rfl rfl (by assumption)) ?_; clear E a; intro a E
  refine list_pure E rfl rfl (by decide) (rn_assign E rfl rfl) ?_; clear E a; intro a E
  refine wpList_nil ?_
  refine then_k hK ?_; clear hK; clear K
  refine wp_ret ?_
  refine ret1 E rfl rfl ?_
  exact ⟨_, rfl, A', C, hA', (S.only (Bs := [A', C]) (sel_cons pk1 (sel_cons pk2 (sel_nil _)))).tr, hB⟩

theorem rtext_body (p : Nat) (s : Rdr) (A : Chunk) (w0 : World) (hA : RdC 100 p s A) (he : s.e = 0) (bk bp bo : Nat) (most : Int)
    (H : Hp w0 [A, [(bk, cel [.int .i64 most] 3)], [(bp, cel [ptr p] 67)], [(bo, cel [str []] 9)]]) :
    Ret Tryd.prog 64 #[ptr bp, ptr bk, ptr bo] w0 fun u w' => ∃ (e' at' : Nat) (A' : Chunk) (Rs' : List Chunk), u = .int .i64 e' ∧ RdC 100 p { s with at_ := at' } A' ∧
      Trs w0 w' [A, [(bk, cel [.int .i64 most] 3)], [(bp, cel [ptr p] 67)], [(bo, cel [str []] 9)]] (A' :: Rs') ∧ (s.text most).2 = { s with at_ := at', e := e' } ∧ ∃ L, Rs'.Perm ([(bo, cel [str (s.text most).1] 9)] :: L) := by
  have S := St.begin H
  have hlen := hA.2.1
  refine enter3 40 Tryd.func64 rfl rfl (by decide) ?_; intro a E
  refine wp_seq_k ?_; intro K hK
  refine region_list ?_
  refine list_pure E rfl rfl (by decide) (rn_assign E rfl rfl) ?_; clear E a; intro a E
  refine wpList_nil ?_
  refine then_k hK ?_; clear hK; clear K
  refine wp_seq_k ?_; intro K hK
  refine region_list ?_
  refine list_pure E rfl rfl (by decide) (by first | exact rn_load E rfl rfl rfl (S.get (by repeat (first | exact pk1 | apply pick_tail))) rfl | exact rn_loadc E rfl rfl rfl (by assumption)) ?_; clear E a; intro a E
  refine list_call E rfl rfl (by decide) rfl Tryd.func61 rfl (by kernel_rfl) rfl (take_ret p s A _ hA (S.hp.sel (sel_cons (by repeat (first | exact pk1 | apply pick_tail)) (sel_nil _))) 2 0 (by omega) (by omega)) ?_
  rintro v10 w ⟨hT, hres⟩; clear E a; intro a E
  have S := S.call1 (sel_cons (by repeat (first | exact pk1 | apply pick_tail)) (sel_nil _)) hT
  rcases hres with ⟨hlt, rfl⟩ | ⟨hle, adb, cb, rfl, hR⟩
  · skip
    refine list_pure E rfl rfl (by decide) (rn_move E rfl rfl) ?_; clear E a; intro a E
    refine list_pure E rfl rfl (by decide) (rn_extract E rfl rfl rfl) ?_; clear E a; intro a E
    refine list_pure E rfl rfl (by decide) (rn_extract E rfl rfl rfl) ?_; clear E a; intro a E
    refine list_pure E rfl rfl (by decide) (rn_assign E rfl rfl) ?_; clear E a; intro a E
    refine list_pure E rfl rfl (by decide) (rn_assign E rfl rfl) ?_; clear E a; intro a E
    refine wpList_nil ?_
    refine then_k hK ?_; clear hK; clear K
    refine wp_seq_k ?_; intro K hK
    refine wp_seq_k ?_; intro K hK
    refine region_list ?_
    refine list_pure E rfl rfl (by decide) (rn_move E rfl rfl) ?_; clear E a; intro a E
    refine list_pure E rfl rfl (by decide) (rn_not E rfl rfl) ?_; clear E a; intro a E
    refine wpList_nil ?_
    refine then_k hK ?_; clear hK; clear K
    refine if_true' E rfl (rfl) ?_
    refine wp_seq_k ?_; intro K hK
    refine region_list ?_
    refine list_pure E rfl rfl (by decide) (rn_assign E rfl rfl) ?_; clear E a; intro a E
    refine wpList_nil ?_
    refine then_k hK ?_; clear hK; clear K
    refine wp_ret ?_
    refine then_ret ?_; clear hK; clear K
    refine ret1 E rfl rfl ?_
    have hv : s.text most = ([], { s with e := 10 }) := by simp [Rdr.text, he, show s.bs.length < s.at_ + 2 by omega]
    exact ⟨_, rfl, 10, s.at_, A, _, rfl, hA, (S.only (Bs := [A, [(bo, cel [str []] 9)]]) (sel_cons (by repeat (first | exact pk1 | apply pick_tail)) (sel_cons (by repeat (first | exact pk1 | apply pick_tail)) (sel_nil _)))).tr, by rw [hv], [], by first | (rw [hv]; done) | (rw [hv]; exact pk1)⟩
  · skip
    refine list_pure E rfl rfl (by decide) (rn_move E rfl rfl) ?_; clear E a; intro a E
    refine list_pure E rfl rfl (by decide) (rn_extract E rfl rfl rfl) ?_; clear E a; intro a E
    refine list_pure E rfl rfl (by decide) (rn_extract E rfl rfl rfl) ?_; clear E a; intro a E
    refine list_pure E rfl rfl (by decide) (rn_assign E rfl rfl) ?_; clear E a; intro a E
    refine list_pure E rfl rfl (by decide) (rn_assign E rfl rfl) ?_; clear E a; intro a E
    refine wpList_nil ?_
    refine then_k hK ?_; clear hK; clear K
    refine wp_seq_k ?_; intro K hK
    refine wp_seq_k ?_; intro K hK
    refine region_list ?_
    refine list_pure E rfl rfl (by decide) (rn_move E rfl rfl) ?_; clear E a; intro a E
    refine list_pure E rfl rfl (by decide) (rn_not E rfl rfl) ?_; clear E a; intro a E
    refine wpList_nil ?_
    refine then_k hK ?_; clear hK; clear K
    refine if_false' E rfl (rfl) ?_
    refine wp_skip ?_
    refine then_k hK ?_; clear hK; clear K
    refine wp_seq_k ?_; intro K hK
    have hnl := numOf_lt (s.cut 2 0)
    rw [s.cut_length 2 0 hle] at hnl
    refine region_list ?_
    refine list_pure E rfl rfl (by decide) (rn_move E rfl rfl) ?_; clear E a; intro a E
    refine list_call E rfl rfl (by decide) rfl Tryd.func62 rfl (by kernel_rfl) rfl (value_ret A _ (s.cut 2 0) _ (by rw [s.cut_length 2 0 hle]; exact hR) (S.stab.at (by repeat (first | exact mm1 | apply List.Mem.tail))) (by rw [s.cut_length 2 0 hle]; omega)) ?_
    rintro v16 w ⟨rfl, rfl⟩; clear E a; intro a E
    refine list_pure E rfl rfl (by decide) (by first | exact rn_convert E rfl rfl rfl rfl (by first | exact wu8 _ | exact w_nat (by omega) | exact w_natu (by omega) | exact w_in (by omega) | exact w_inu (by omega) | exact rfl) | exact rn_string E rfl rfl rfl rfl rfl (by assumption) (S.stab.at (by simp))) ?_; clear E a; intro a E
    refine list_pure E rfl rfl (by decide) (rn_assign E rfl rfl) ?_; clear E a; intro a E
    refine wpList_nil ?_
    refine then_k hK ?_; clear hK; clear K
    refine wp_seq_k ?_; intro K hK
    refine wp_seq_k ?_; intro K hK
    refine region_list ?_
    refine list_pure E rfl rfl (by decide) (rn_move E rfl rfl) ?_; clear E a; intro a E
    refine list_pure E rfl rfl (by decide) (by first | exact rn_load E rfl rfl rfl (S.get (by repeat (first | exact pk1 | apply pick_tail))) rfl | exact rn_loadc E rfl rfl rfl (by assumption)) ?_; clear E a; intro a E
    refine list_pure E rfl rfl (by decide) (rn_gtr E rfl rfl rfl) ?_; clear E a; intro a E
    refine wpList_nil ?_
    refine then_k hK ?_; clear hK; clear K
    refine if_bool E rfl (fun hb => ?_) (fun hb => ?_)
    · replace hb := Nrm.nrm hb
      refine wp_seq_k ?_; intro K hK
      refine region_list ?_
      refine list_pure E rfl rfl (by decide) (rn_assign E rfl rfl) ?_; clear E a; intro a E
      refine wpList_nil ?_
      refine then_k hK ?_; clear hK; clear K
      refine wp_ret ?_
      refine then_ret ?_; clear hK; clear K
      refine ret1 E rfl rfl ?_
      have hv : s.text most = ([], { s with e := 11 }) := by simp [Rdr.text, he, show ¬ s.bs.length < s.at_ + 2 by omega, show most < (numOf (s.cut 2 0) : Int) by omega]
      exact ⟨_, rfl, 11, s.at_, A, _, rfl, hA, (S.only (Bs := [A, [(bo, cel [str []] 9)]]) (sel_cons (by repeat (first | exact pk1 | apply pick_tail)) (sel_cons (by repeat (first | exact pk1 | apply pick_tail)) (sel_nil _)))).tr, by rw [hv], [], by first | (rw [hv]; done) | (rw [hv]; exact pk1)⟩
    · replace hb := Nrm.nrm hb
      refine wp_skip ?_
      refine then_k hK ?_; clear hK; clear K
      refine wp_seq_k ?_; intro K hK
      refine region_list ?_
      refine list_pure E rfl rfl (by decide) (by first | exact rn_load E rfl rfl rfl (S.get (by repeat (first | exact pk1 | apply pick_tail))) rfl | exact rn_loadc E rfl rfl rfl (by assumption)) ?_; clear E a; intro a E
      refine list_pure E rfl rfl (by decide) (rn_move E rfl rfl) ?_; clear E a; intro a E
      refine list_call E rfl rfl (by decide) rfl Tryd.func61 rfl (by kernel_rfl) rfl (take_ret p s A _ hA (S.hp.sel (sel_cons (by repeat (first | exact pk1 | apply pick_tail)) (sel_nil _))) (numOf (s.cut 2 0)) 2 (by omega) (by omega)) ?_
      rintro v24 w ⟨hT, hres⟩; clear E a; intro a E
      have S := S.call1 (sel_cons (by repeat (first | exact pk1 | apply pick_tail)) (sel_nil _)) hT
      rcases hres with ⟨hlt, rfl⟩ | ⟨hle2, adb2, cb2, rfl, hR2⟩
      · skip
        refine list_pure E rfl rfl (by decide) (rn_move E rfl rfl) ?_; clear E a; intro a E
        refine list_pure E rfl rfl (by decide) (rn_extract E rfl rfl rfl) ?_; clear E a; intro a E
        refine list_pure E rfl rfl (by decide) (rn_extract E rfl rfl rfl) ?_; clear E a; intro a E
        refine list_pure E rfl rfl (by decide) (rn_assign E rfl rfl) ?_; clear E a; intro a E
        refine list_pure E rfl rfl (by decide) (rn_assign E rfl rfl) ?_; clear E a; intro a E
        refine wpList_nil ?_
        refine then_k hK ?_; clear hK; clear K
        refine wp_seq_k ?_; intro K hK
        refine wp_seq_k ?_; intro K hK
        replace E := E.keep (e' := [(0, _), (2, _), (3, _), (5, _), (6, _), (7, _)]) (keep_cons rfl (keep_cons rfl (keep_cons rfl (keep_cons rfl (keep_cons rfl (keep_cons rfl (keep_nil)))))))
        refine region_list ?_
        refine list_pure E rfl rfl (by decide) (rn_move E rfl rfl) ?_; clear E a; intro a E
        refine list_pure E rfl rfl (by decide) (rn_not E rfl rfl) ?_; clear E a; intro a E
        refine wpList_nil ?_
        refine then_k hK ?_; clear hK; clear K
        refine if_true' E rfl (rfl) ?_
        refine wp_seq_k ?_; intro K hK
        refine region_list ?_
        refine list_pure E rfl rfl (by decide) (rn_assign E rfl rfl) ?_; clear E a; intro a E
        refine wpList_nil ?_
        refine then_k hK ?_; clear hK; clear K
        refine wp_ret ?_
        refine then_ret ?_; clear hK; clear K
        refine ret1 E rfl rfl ?_
        have hv : s.text most = ([], { s with e := 10 }) := by simp [Rdr.text, he, show ¬ s.bs.length < s.at_ + 2 by omega, show ¬ most < (numOf (s.cut 2 0) : Int) by omega, show s.bs.length < s.at_ + 2 + numOf (s.cut 2 0) by omega]
        exact ⟨_, rfl, 10, s.at_, A, _, rfl, hA, (S.only (Bs := [A, [(bo, cel [str []] 9)]]) (sel_cons (by repeat (first | exact pk1 | apply pick_tail)) (sel_cons (by repeat (first | exact pk1 | apply pick_tail)) (sel_nil _)))).tr, by rw [hv], [], by first | (rw [hv]; done) | (rw [hv]; exact pk1)⟩
      · skip
        refine list_pure E rfl rfl (by decide) (rn_move E rfl rfl) ?_; clear E a; intro a E
        refine list_pure E rfl rfl (by decide) (rn_extract E rfl rfl rfl) ?_; clear E a; intro a E
        refine list_pure E rfl rfl (by decide) (rn_extract E rfl rfl rfl) ?_; clear E a; intro a E
        refine list_pure E rfl rfl (by decide) (rn_assign E rfl rfl) ?_; clear E a; intro a E
        refine list_pure E rfl rfl (by decide) (rn_assign E rfl rfl) ?_; clear E a; intro a E
        refine wpList_nil ?_
        refine then_k hK ?_; clear hK; clear K
        refine wp_seq_k ?_; intro K hK
        refine wp_seq_k ?_; intro K hK
        replace E := E.keep (e' := [(0, _), (2, _), (3, _), (5, _), (6, _), (7, _)]) (keep_cons rfl (keep_cons rfl (keep_cons rfl (keep_cons rfl (keep_cons rfl (keep_cons rfl (keep_nil)))))))
        refine region_list ?_
        refine list_pure E rfl rfl (by decide) (rn_move E rfl rfl) ?_; clear E a; intro a E
        refine list_pure E rfl rfl (by decide) (rn_not E rfl rfl) ?_; clear E a; intro a E
        refine wpList_nil ?_
        refine then_k hK ?_; clear hK; clear K
        refine if_false' E rfl (rfl) ?_
        refine wp_skip ?_
        refine then_k hK ?_; clear hK; clear K
        refine wp_seq_k ?_; intro K hK
        refine region_list ?_
        refine list_pure E rfl rfl (by decide) (rn_move E rfl rfl) ?_; clear E a; intro a E
        refine list_pure E rfl rfl (by decide) (rn_string E rfl rfl rfl rfl rfl (bs := s.cut (numOf (s.cut 2 0)) 2) (by rw [s.cut_length _ 2 hle2]; exact hR2) (S.stab.at (by repeat (first | exact mm1 | apply List.Mem.tail)))) ?_; clear E a; intro a E
        refine list_wp rfl (wp_store1 E S rfl rfl rfl rfl rfl rfl (by repeat (first | exact pk1 | apply pick_tail)) (by first | exact Nat.le_of_ble_eq_true rfl | (simp; done) | (simp; omega)) ?_); clear E S a; intro a w E S; try dsimp only [List.set] at S
        refine wpList_nil ?_
        obtain ⟨hat, hlen, ad, c, C, rfl, hc, hRC⟩ := hA
        have S := (S.perm (Bs := [[(p, cel [.slice ad s.bs.length c, .int .i64 s.at_, .int .i64 s.e] 100)] ++ C, _, _, _]) (sel_cons (by repeat (first | exact pk1 | apply pick_tail)) (sel_cons (by repeat (first | exact pk1 | apply pick_tail)) (sel_cons (by repeat (first | exact pk1 | apply pick_tail)) (sel_cons (by repeat (first | exact pk1 | apply pick_tail)) (sel_nil _)))))).split
        refine then_k hK ?_; clear hK; clear K
        refine wp_seq_k ?_; intro K hK
        refine region_list ?_
        refine list_pure E rfl rfl (by decide) (by first | exact rn_load E rfl rfl rfl (S.get (by repeat (first | exact pk1 | apply pick_tail))) rfl | exact rn_loadc E rfl rfl rfl (by assumption)) ?_; clear E a; intro a E
        refine list_pure E rfl rfl (by decide) (rn_nilCheck E rfl rfl) ?_; clear E a; intro a E
        refine list_pure E rfl rfl (by decide) (by first | exact rn_fieldAddr0 (q := 1) E rfl rfl rfl | exact rn_fieldAddr (q := 1) E rfl rfl rfl) ?_; clear E a; intro a E
        refine list_pure E rfl rfl (by decide) (by first | exact rn_load E rfl rfl rfl (S.get (by repeat (first | exact pk1 | apply pick_tail))) rfl | exact rn_loadc E rfl rfl rfl (by assumption)) ?_; clear E a; intro a E
        refine list_pure E rfl rfl (by decide) (rn_move E rfl rfl) ?_; clear E a; intro a E
        refine list_pure E rfl rfl (by decide) (rn_add E rfl rfl rfl (by first | exact wa_lit2 (x := 2) (by omega) | exact w_in (by omega) | exact w_inu (by omega) | exact rfl)) ?_; clear E a; intro a E
        refine list_pure E rfl rfl (by decide) (rn_add E rfl rfl rfl (by first | exact wa1 (by omega) | exact w_in (by omega) | exact w_inu (by omega) | exact rfl)) ?_; clear E a; intro a E
        refine list_pure E rfl rfl (by decide) (rn_nilCheck E rfl rfl) ?_; clear E a; intro a E
        refine list_pure E rfl rfl (by decide) (by first | exact rn_fieldAddr0 (q := 1) E rfl rfl rfl | exact rn_fieldAddr (q := 1) E rfl rfl rfl) ?_; clear E a; intro a E
        refine list_wp rfl (wp_store1 E S rfl rfl rfl rfl rfl rfl (by repeat (first | exact pk1 | apply pick_tail)) (by first | exact Nat.le_of_ble_eq_true rfl | (simp; done) | (simp; omega)) ?_); clear E S a; intro a w E S; try dsimp only [List.set] at S
        refine wpList_nil ?_
        refine then_k hK ?_; clear hK; clear K
        refine wp_seq_k ?_; intro K hK
        refine region_list ?_
        refine list_pure E rfl rfl (by decide) (rn_assign E rfl rfl) ?_; clear E a; intro a E
        refine wpList_nil ?_
        refine then_k hK ?_; clear hK; clear K
        refine wp_ret ?_
        refine ret1 E rfl rfl ?_
        have hv : s.text most = (s.cut (numOf (s.cut 2 0)) 2, { s with at_ := s.at_ + (2 + numOf (s.cut 2 0)) }) := by simp [Rdr.text, he, show ¬ s.bs.length < s.at_ + 2 by omega, show ¬ most < (numOf (s.cut 2 0) : Int) by omega, show ¬ s.bs.length < s.at_ + 2 + numOf (s.cut 2 0) by omega]
        exact ⟨_, rfl, 0, s.at_ + (2 + numOf (s.cut 2 0)), _, _, rfl, ⟨by simp only; omega, hlen, ad, c, C, rfl, hc, hRC⟩, S.join.tr, by rw [hv, ← he], _, by first | (rw [hv]; done) | (rw [hv]; exact pk1)⟩

theorem rtext_ret (p : Nat) (s : Rdr) (A : Chunk) (w0 : World) (hA : RdC 100 p s A) (H : Hp w0 [A]) (most : Int) :
    Ret Tryd.prog 37 #[ptr p, .int .i64 most] w0 fun u w' => ∃ A', u = str (s.text most).1 ∧ RdC 100 p (s.text most).2 A' ∧ Trs w0 w' [A] [A'] := by
  have S := St.begin H
  refine enter2 10 Tryd.func37 rfl rfl (by decide) ?_; intro a E
  refine wp_seq_k ?_; intro K hK
  refine region_list ?_
  refine list_wp rfl (wp_box E S rfl rfl (by decide) rfl rfl ?_); clear E S a; intro a w b2 E S
  refine list_wp rfl (wp_box E S rfl rfl (by decide) rfl rfl ?_); clear E S a; intro a w b3 E S
  refine list_pure E rfl rfl (by decide) (rn_assign E rfl rfl) ?_; clear E a; intro a E
  refine wpList_nil ?_
  refine then_k hK ?_; clear hK; clear K
  refine wp_seq_k ?_; intro K hK
  refine region_list ?_
  refine list_wp rfl (wp_alloc E S rfl rfl (by decide) rfl rfl rfl ?_); clear E S a; intro a w b5 E S
  refine wpList_nil ?_
  refine then_k hK ?_; clear hK; clear K
  refine wp_seq_k ?_; intro K hK
  have S := S.perm (Bs := [A, [(b3, cel [.int .i64 most] 3)], [(b2, cel [ptr p] 67)], [(b5, cel [str []] 9)]]) (sel_cons (by repeat (first | exact pk1 | apply pick_tail)) (sel_cons (by repeat (first | exact pk1 | apply pick_tail)) (sel_cons (by repeat (first | exact pk1 | apply pick_tail)) (sel_cons (by repeat (first | exact pk1 | apply pick_tail)) (sel_nil _)))))
  refine region_list ?_
  refine list_pure E rfl rfl (by decide) (by first | exact rn_load E rfl rfl rfl (S.get (by repeat (first | exact pk1 | apply pick_tail))) rfl | exact rn_loadc E rfl rfl rfl (by assumption)) ?_; clear E a; intro a E
  refine list_pure E rfl rfl (by decide) (rn_makeFunc E rfl rfl ⟨_, rfl⟩) ?_; clear E a; intro a E
  refine list_call E rfl rfl (by decide) rfl Tryd.func59 rfl (by kernel_rfl) rfl (rtry_ret (s.text most).2 (fun Rs' => ∃ L, Rs'.Perm ([(b5, cel [str (s.text most).1] 9)] :: L)) 64 _ [ptr b2, ptr b3, ptr b5] Tryd.func64 rfl (by kernel_rfl) p s A [[(b3, cel [.int .i64 most] 3)], [(b2, cel [ptr p] 67)], [(b5, cel [str []] 9)]] w hA S.hp (fun h => ⟨by simp [Rdr.text, h], _, by simp only [Rdr.text, h, if_true, ne_eq, not_false_eq_true]; exact pk3⟩) (fun h => rtext_body p s A w hA h b3 b2 b5 most S.hp)) ?_
  rintro v8 w ⟨A', Rs', hA', hT, L, hL⟩; clear E a; intro a E
  have S := (S.all hT).perm (hL.cons A')
  refine wpList_nil ?_
  refine then_k hK ?_; clear hK; clear K
  refine wp_seq_k ?_; intro K hK
  refine region_list ?_
  refine list_pure E rfl rfl (by decide) (by first | exact rn_load E rfl rfl rfl (S.get (by repeat (first | exact pk1 | apply pick_tail))) rfl | exact rn_loadc E rfl rfl rfl (by assumption)) ?_; clear E a; intro a E
  refine list_pure E rfl rfl (by decide) (rn_assign E rfl rfl) ?_; clear E a; intro a E
  refine wpList_nil ?_
  refine then_k hK ?_; clear hK; clear K
  refine wp_ret ?_
  refine ret1 E rfl rfl ?_
  exact ⟨_, rfl, A', rfl, hA', (S.only (Bs := [A']) (sel_cons (by repeat (first | exact pk1 | apply pick_tail)) (sel_nil _))).tr⟩

theorem left_ret (p : Nat) (s : Rdr) (A : Chunk) (w0 : World) (hA : RdC 100 p s A) (H : Hp w0 [A]) :
    Ret Tryd.prog 65 #[ptr p] w0 fun u w' => u = .int .i64 s.left ∧ Trs w0 w' [A] [A] := by
  obtain ⟨hat, hlen, ad, c, C, rfl, hc, hR⟩ := hA
  have S := (St.begin H).split
  refine enter1 13 Tryd.func65 rfl rfl (by decide) ?_; intro a E
  refine wp_seq_k ?_; intro K hK
  refine region_list ?_
  refine list_pure E rfl rfl (by decide) (rn_assign E rfl rfl) ?_; clear E a; intro a E
  refine wpList_nil ?_
  refine then_k hK ?_; clear hK; clear K
  refine wp_seq_k ?_; intro K hK
  refine region_mix0 S (.ofL [(0, 0), (1, 0), (2, 0), (3, 0), (4, 0), (5, 0), (6, 0), (7, 0), (8, 0), (9, 0), (10, 0)]) (by kernel_rfl) (by kernel_rfl) ?_
  clear S; intro w S
  refine mix_pure E rfl rfl rfl (by decide) (fun w h => rn_move E rfl rfl) ?_; clear E a; intro a E
  refine mix_pure E rfl rfl rfl (by decide) (fun w h => rn_nilCheck E rfl rfl) ?_; clear E a; intro a E
  refine mix_pure E rfl rfl rfl (by decide) (fun w h => by first | exact rn_fieldAddr0 (q := 0) E rfl rfl rfl | exact rn_fieldAddr (q := 0) E rfl rfl rfl) ?_; clear E a; intro a E
  refine mix_pure E rfl rfl rfl (by decide) (fun w h => by first | exact rn_load E rfl rfl rfl (h.one (by repeat (first | exact mm1 | apply List.Mem.tail))) rfl | exact rn_loadc E rfl rfl rfl (by assumption)) ?_; clear E a; intro a E
  refine mix_pure E rfl rfl rfl (by decide) (fun w h => by first | exact rn_len E rfl rfl rfl | exact rn_len_str E rfl rfl rfl | exact rn_len_string E rfl rfl rfl) ?_; clear E a; intro a E
  refine mix_pure E rfl rfl rfl (by decide) (fun w h => rn_move E rfl rfl) ?_; clear E a; intro a E
  refine mix_pure E rfl rfl rfl (by decide) (fun w h => rn_nilCheck E rfl rfl) ?_; clear E a; intro a E
  refine mix_pure E rfl rfl rfl (by decide) (fun w h => by first | exact rn_fieldAddr0 (q := 1) E rfl rfl rfl | exact rn_fieldAddr (q := 1) E rfl rfl rfl) ?_; clear E a; intro a E
  refine mix_pure E rfl rfl rfl (by decide) (fun w h => by first | exact rn_load E rfl rfl rfl (h.one (by repeat (first | exact mm1 | apply List.Mem.tail))) rfl | exact rn_loadc E rfl rfl rfl (by assumption)) ?_; clear E a; intro a E
  refine mix_pure E rfl rfl rfl (by decide) (fun w h => rn_sub E rfl rfl rfl (by first | exact ws1 (by omega) (by omega) | exact w_in (by omega) | exact w_inu (by omega) | exact rfl)) ?_; clear E a; intro a E
  refine mix_pure E rfl rfl rfl (by decide) (fun w h => rn_assign E rfl rfl) ?_; clear E a; intro a E
  refine mix_nil ?_
  refine then_k hK ?_; clear hK; clear K
  refine wp_ret ?_
  refine ret1 E rfl rfl ?_
  exact ⟨_, rfl, by simp only [Rdr.left]; congr 1; omega, S.join.tr⟩

theorem rdone_ret (p : Nat) (s : Rdr) (A : Chunk) (w0 : World) (hA : RdC 100 p s A) (H : Hp w0 [A]) :
    Ret Tryd.prog 39 #[ptr p] w0 fun u w' => u = .int .i64 s.done ∧ Trs w0 w' [A] [A] := by
  have hA0 := hA
  obtain ⟨hat, hlen, ad, c, C, hAe, hc, hR⟩ := hA
  have S := St.begin H
  have S := (by rw [hAe] at S; exact S.split : St w0 _ w0 ([(p, cel [.slice ad s.bs.length c, .int .i64 s.at_, .int .i64 s.e] 100)] :: C :: _))
  have hl : s.left = s.bs.length - s.at_ := rfl
  refine enter1 17 Tryd.func39 rfl rfl (by decide) ?_; intro a E
  refine wp_seq_k ?_; intro K hK
  refine region_list ?_
  refine list_pure E rfl rfl (by decide) (rn_assign E rfl rfl) ?_; clear E a; intro a E
  refine wpList_nil ?_
  refine then_k hK ?_; clear hK; clear K
  refine wp_seq_k ?_; intro K hK
  refine wp_seq_k ?_; intro K hK
  refine region_list ?_
  refine list_pure E rfl rfl (by decide) (rn_move E rfl rfl) ?_; clear E a; intro a E
  refine list_pure E rfl rfl (by decide) (rn_nilCheck E rfl rfl) ?_; clear E a; intro a E
  refine list_pure E rfl rfl (by decide) (by first | exact rn_fieldAddr0 (q := 2) E rfl rfl rfl | exact rn_fieldAddr (q := 2) E rfl rfl rfl) ?_; clear E a; intro a E
  refine list_pure E rfl rfl (by decide) (by first | exact rn_load E rfl rfl rfl (S.get (by repeat (first | exact pk1 | apply pick_tail))) rfl | exact rn_loadc E rfl rfl rfl (by assumption)) ?_; clear E a; intro a E
  refine list_pure E rfl rfl (by decide) (by first | exact rn_eql E rfl rfl rfl | exact rn_eql_ptr_nil E rfl rfl rfl rfl | exact rn_eql_bool E rfl rfl rfl rfl | exact rn_eql_string E rfl rfl rfl) ?_; clear E a; intro a E
  refine list_pure E rfl rfl (by decide) (rn_move E rfl rfl) ?_; clear E a; intro a E
  refine guard_split E (t := 8) rfl (fun hb8 => ?_) (fun hb8 => ?_)
  · have hb8n := hb8; replace hb8n := Nrm.nrm hb8n
    refine list_guard_yes E rfl rfl rfl rfl hb8 rfl (by decide) (rn_move E rfl rfl) ?_; clear E a; intro a E
    refine list_guard_wp E rfl rfl rfl rfl hb8 ?_; refine wp_call' E rfl (by decide) rfl Tryd.func65 rfl (by kernel_rfl) rfl (left_ret p s A _ hA0 H) ?_
    rintro v10 w ⟨rfl, hT⟩; clear E a; intro a E
    have S := (St.begin H).call1 (sel_cons (by repeat (first | exact pk1 | apply pick_tail)) (sel_nil _)) hT
    have S := (by rw [hAe] at S; exact S.split : St w0 _ _ ([(p, cel [.slice ad s.bs.length c, .int .i64 s.at_, .int .i64 s.e] 100)] :: C :: _))
    refine list_guard_yes E rfl rfl rfl rfl hb8 rfl (by decide) (rn_gtr E rfl rfl rfl) ?_; clear E a; intro a E
    refine list_pure E rfl rfl (by decide) (rn_pick_yes' E rfl rfl hb8 rfl) ?_; clear E a; intro a E
    refine wpList_nil ?_
    refine then_k hK ?_; clear hK; clear K
    refine if_bool E rfl (fun hb => ?_) (fun hb => ?_)
    · replace hb := Nrm.nrm hb
      refine wp_seq_k ?_; intro K hK
      refine region_list ?_
      refine list_pure E rfl rfl (by decide) (rn_assign E rfl rfl) ?_; clear E a; intro a E
      refine wpList_nil ?_
      refine then_k hK ?_; clear hK; clear K
      refine wp_ret ?_
      refine then_ret ?_; clear hK; clear K
      refine ret1 E rfl rfl ?_
      have S := S.join; rw [← hAe] at S
      exact ⟨_, rfl, by simp only [Rdr.done]; rw [if_pos (by omega)]; rfl, S.tr⟩
    · replace hb := Nrm.nrm hb
      refine wp_skip ?_
      refine then_k hK ?_; clear hK; clear K
      refine wp_seq_k ?_; intro K hK
      refine region_list ?_
      refine list_pure E rfl rfl (by decide) (rn_move E rfl rfl) ?_; clear E a; intro a E
      refine list_pure E rfl rfl (by decide) (rn_nilCheck E rfl rfl) ?_; clear E a; intro a E
      refine list_pure E rfl rfl (by decide) (by first | exact rn_fieldAddr0 (q := 2) E rfl rfl rfl | exact rn_fieldAddr (q := 2) E rfl rfl rfl) ?_; clear E a; intro a E
      refine list_pure E rfl rfl (by decide) (by first | exact rn_load E rfl rfl rfl (S.get (by repeat (first | exact pk1 | apply pick_tail))) rfl | exact rn_loadc E rfl rfl rfl (by assumption)) ?_; clear E a; intro a E
      refine list_pure E rfl rfl (by decide) (rn_assign E rfl rfl) ?_; clear E a; intro a E
      refine wpList_nil ?_
      refine then_k hK ?_; clear hK; clear K
      refine wp_ret ?_
      refine ret1 E rfl rfl ?_
      have S := S.join; rw [← hAe] at S
      exact ⟨_, rfl, by simp only [Rdr.done]; rw [if_neg (by omega)], S.tr⟩
  · have hb8n := hb8; replace hb8n := Nrm.nrm hb8n
    refine list_guard_no E rfl rfl rfl rfl hb8 rfl (by decide) ?_; clear E a; intro a E
    refine list_guard_no E rfl rfl rfl rfl hb8 rfl (by decide) ?_; clear E a; intro a E
    refine list_guard_no E rfl rfl rfl rfl hb8 rfl (by decide) ?_; clear E a; intro a E
    refine list_pure E rfl rfl (by decide) (rn_pick_no' E rfl rfl hb8 rfl) ?_; clear E a; intro a E
    refine wpList_nil ?_
    refine then_k hK ?_; clear hK; clear K
    refine if_false' E rfl rfl ?_
    refine wp_skip ?_
    refine then_k hK ?_; clear hK; clear K
    refine wp_seq_k ?_; intro K hK
    refine region_list ?_
    refine list_pure E rfl rfl (by decide) (rn_move E rfl rfl) ?_; clear E a; intro a E
    refine list_pure E rfl rfl (by decide) (rn_nilCheck E rfl rfl) ?_; clear E a; intro a E
    refine list_pure E rfl rfl (by decide) (by first | exact rn_fieldAddr0 (q := 2) E rfl rfl rfl | exact rn_fieldAddr (q := 2) E rfl rfl rfl) ?_; clear E a; intro a E
    refine list_pure E rfl rfl (by decide) (by first | exact rn_load E rfl rfl rfl (S.get (by repeat (first | exact pk1 | apply pick_tail))) rfl | exact rn_loadc E rfl rfl rfl (by assumption)) ?_; clear E a; intro a E
    refine list_pure E rfl rfl (by decide) (rn_assign E rfl rfl) ?_; clear E a; intro a E
    refine wpList_nil ?_
    refine then_k hK ?_; clear hK; clear K
    refine wp_ret ?_
    refine ret1 E rfl rfl ?_
    have S := S.join; rw [← hAe] at S
    exact ⟨_, rfl, by simp only [Rdr.done]; rw [if_neg (by omega)], S.tr⟩

theorem cut_zero_or (s : Rdr) (n : Nat) (h : ∃ k, ∃ hk : k < (s.cut n 0).length, (s.cut n 0)[k] ≠ 0) : s.cut n 0 ≠ List.replicate n 0 := by
  obtain ⟨k, hk, hne⟩ := h
  intro e
  apply hne
  have : (s.cut n 0)[k]? = some 0 := by
    rw [e, List.getElem?_replicate]
    have : k < n := by rw [e] at hk; simpa using hk
    simp [this]
  rw [List.getElem?_eq_getElem hk] at this
  exact Option.some.inj this

end Go.Proofs.YtjhmjdgdgpgcdaaDoor
