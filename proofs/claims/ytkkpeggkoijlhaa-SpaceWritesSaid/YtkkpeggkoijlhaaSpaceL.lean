/-
  Space maps: each call with one answer; the chapter's example; what is read.
-/
import Derived.Test.YtkkpeggkoijlhaaSpaceV
namespace Go.Sl
def encO (l : List Sc) : List UInt8 := if checkE l = 0 then encB l.length l else []
def condO (l : List Sc) : List Sc := if repE l = 0 then condL ((replay [] l).getD []) else []
def decE (b : List UInt8) : Int := if (decB b).isSome then 0 else 100
def decO (b : List UInt8) : List Sc := (decB b).getD []
theorem condO_of {l : List Sc} {s : List Sp} (h : repE l = 0) (hs : replay [] l = some s) : condO l = condL s := by simp [condO, h, hs]
theorem condO_no {l : List Sc} (h : repE l ≠ 0) : condO l = [] := by simp [condO, h]
theorem dec_some {b : List UInt8} {l : List Sc} (h : decB b = some l) : decE b = 0 ∧ decO b = l := by simp [decE, decO, h]
theorem dec_none {b : List UInt8} (h : decB b = none) : decE b = 100 ∧ decO b = [] := by simp [decE, decO, h]
theorem decE_ok {b : List UInt8} (h : decE b = 0) : decB b = some (decO b) := by
  cases hd : decB b with
  | none => simp [decE, hd] at h
  | some l => simp [decO, hd]
end Go.Sl
namespace Go.Proofs.Ytkkpeggkoijlhaa
open Go.Sl
set_option maxRecDepth 10000

theorem addNilTrs {w w' : World} {As Bs : List Chunk} (h : Trs w w' As Bs) : Trs w w' As (Bs ++ [[]]) := by unfold Trs at *; simpa using h

section
variable (O : Chunk) (v : Value) (l : List Sc) (hO : Rd O 3 v l.length (l.flatMap Sc.lay)) (hl : l.length ≤ 140737488355328) (w0 : World) (H : Hp w0 [O])
include hO hl H
theorem enc1 : Ret Try.prog 9 #[v] w0 fun u w' => ∃ vc C, u = .tuple #[vc, .int .i64 (checkE l)] ∧ Buf C 5 1 vc (encO l).length (byt (encO l)) ∧ Trs w0 w' [O] [O, C] :=
  (enc_ret O v l hO hl w0 H).mono fun u w' h => by
    rcases h with ⟨h1, rfl, hT⟩ | ⟨h1, vc, C, rfl, hC, hT⟩
    · exact ⟨_, [], rfl, by rw [show encO l = [] by simp [encO, h1]]; exact Buf.nil _ _, addNilTrs hT⟩
    · exact ⟨vc, C, by rw [h1], by rw [show encO l = encB l.length l by simp [encO, h1]]; exact hC, hT⟩
theorem denc1 : Ret Try.prog 10 #[v] w0 fun u w' => ∃ vc C, u = .tuple #[vc, .int .i64 (checkE l)] ∧ Buf C 5 1 vc (encO l).length (byt (encO l)) ∧ Trs w0 w' [O] [O, C] :=
  (denc_ret O v l hO hl w0 H).mono fun u w' h => by
    rcases h with ⟨h1, rfl, hT⟩ | ⟨h1, vc, C, rfl, hC, hT⟩
    · exact ⟨_, [], rfl, by rw [show encO l = [] by simp [encO, h1]]; exact Buf.nil _ _, addNilTrs hT⟩
    · exact ⟨vc, C, by rw [h1], by rw [show encO l = encB l.length l by simp [encO, h1]]; exact hC, hT⟩
theorem cond1 : Ret Try.prog 13 #[v] w0 fun u w' => ∃ vc C, u = .tuple #[vc, .int .i64 (repE l)] ∧ Buf C 41 3 vc (condO l).length ((condO l).flatMap Sc.lay) ∧ Trs w0 w' [O] [O, C] :=
  (cond_ret O v l hO hl w0 H).mono fun u w' h => by
    rcases h with ⟨h1, rfl, hT⟩ | ⟨h1, s, vc, C, hs, _, rfl, hC, hT⟩
    · exact ⟨_, [], rfl, by rw [condO_no h1]; exact Buf.nil _ _, addNilTrs hT⟩
    · exact ⟨vc, C, by rw [h1], by rw [condO_of h1 hs, condL_length]; exact hC, hT⟩
theorem dcond1 : Ret Try.prog 14 #[v] w0 fun u w' => ∃ vc C, u = .tuple #[vc, .int .i64 (repE l)] ∧ Buf C 41 3 vc (condO l).length ((condO l).flatMap Sc.lay) ∧ Trs w0 w' [O] [O, C] :=
  (dcond_ret O v l hO hl w0 H).mono fun u w' h => by
    rcases h with ⟨h1, rfl, hT⟩ | ⟨h1, s, vc, C, hs, _, rfl, hC, hT⟩
    · exact ⟨_, [], rfl, by rw [condO_no h1]; exact Buf.nil _ _, addNilTrs hT⟩
    · exact ⟨vc, C, by rw [h1], by rw [condO_of h1 hs, condL_length]; exact hC, hT⟩
end
section
variable (O : Chunk) (v : Value) (b : List UInt8) (hO : Rd O 1 v b.length (byt b)) (hl : b.length ≤ 140737488355328) (w0 : World) (H : Hp w0 [O])
include hO hl H
theorem dec1 : Ret Try.prog 19 #[v] w0 fun u w' => ∃ vc C, u = .tuple #[vc, .int .i64 (decE b)] ∧ Buf C 41 3 vc (decO b).length ((decO b).flatMap Sc.lay) ∧ Trs w0 w' [O] [O, C] :=
  (dec_ret O v b hO hl w0 H).mono fun u w' h => by
    rcases h with ⟨h1, rfl, hT⟩ | ⟨l, vc, C, h1, rfl, hC, hT⟩
    · obtain ⟨e1, e2⟩ := dec_none h1
      exact ⟨_, [], by rw [e1], by rw [e2]; exact Buf.nil _ _, addNilTrs hT⟩
    · obtain ⟨e1, e2⟩ := dec_some h1
      exact ⟨vc, C, by rw [e1], by rw [e2]; exact hC, hT⟩
theorem ddec1 : Ret Try.prog 20 #[v] w0 fun u w' => ∃ vc C, u = .tuple #[vc, .int .i64 (decE b)] ∧ Buf C 41 3 vc (decO b).length ((decO b).flatMap Sc.lay) ∧ Trs w0 w' [O] [O, C] :=
  (ddec_ret O v b hO hl w0 H).mono fun u w' h => by
    rcases h with ⟨h1, rfl, hT⟩ | ⟨l, vc, C, h1, rfl, hC, hT⟩
    · obtain ⟨e1, e2⟩ := dec_none h1
      exact ⟨_, [], by rw [e1], by rw [e2]; exact Buf.nil _ _, addNilTrs hT⟩
    · obtain ⟨e1, e2⟩ := dec_some h1
      exact ⟨vc, C, by rw [e1], by rw [e2]; exact hC, hT⟩
end
end Go.Proofs.Ytkkpeggkoijlhaa
namespace Go.Sl
def exL : List Sc := [⟨false, ⟨4, 2⟩⟩, ⟨false, ⟨6, 1⟩⟩, ⟨true, ⟨5, 1⟩⟩]
theorem exL_facts : repE exL = 0 ∧ replay [] exL = some [⟨4, 1⟩, ⟨6, 1⟩] ∧ checkE exL = 0 := by decide +kernel
end Go.Sl
namespace Go.Proofs.Ytkkpeggkoijlhaa
open Go.Sl

theorem awake_ret (w0 : World) : Ret Try.prog 7 #[] w0 fun u w' => u = .bool true ∧ Trs w0 w' [] [] := by
  have S := St.begin (hp_nil w0)
  obtain ⟨x1, x2, x3⟩ := exL_facts
  refine enter0 72 Try.func7 rfl rfl ?_; intro a E
  refine wp_seq_k ?_; intro K hK
  refine region_list ?_
  refine list_pure E rfl rfl (by decide) (rn_assign E rfl rfl) ?_; clear E a; intro a E
  refine wpList_nil ?_
  refine then_k hK ?_; clear hK; clear K
  refine wp_seq_k ?_; intro K hK
  refine region_list ?_
  refine list_pure E rfl rfl (by decide) (rn_build (cells := [_, _]) E rfl rfl rfl) ?_; clear E a; intro a E
  refine list_pure E rfl rfl (by decide) (rn_build (cells := [_, _, _]) E rfl rfl rfl) ?_; clear E a; intro a E
  refine list_pure E rfl rfl (by decide) (rn_build (cells := [_, _]) E rfl rfl rfl) ?_; clear E a; intro a E
  refine list_pure E rfl rfl (by decide) (rn_build (cells := [_, _, _]) E rfl rfl rfl) ?_; clear E a; intro a E
  refine list_pure E rfl rfl (by decide) (rn_build (cells := [_, _]) E rfl rfl rfl) ?_; clear E a; intro a E
  refine list_pure E rfl rfl (by decide) (rn_build (cells := [_, _, _]) E rfl rfl rfl) ?_; clear E a; intro a E
  refine list_wp rfl (wp_bslice (cells := [_, _, _, _, _, _, _, _, _]) E S rfl rfl (by decide) rfl rfl rfl rfl rfl (by decide) rfl ?_); clear E S a; intro a w b17 E S
  refine list_pure E rfl rfl (by decide) (rn_assign E rfl rfl) ?_; clear E a; intro a E
  refine wpList_nil ?_
  refine then_k hK ?_; clear hK; clear K
  refine wp_seq_k ?_; intro K hK
  have hO : Rd [(b17, cel (exL.flatMap Sc.lay) 41)] 3 (.slice (some ⟨b17, 0, none⟩) 3 3) exL.length (exL.flatMap Sc.lay) := rd_cells rfl (by simp [exL, Sc.lay, Value.oneCell']) (by decide) 3
  have S : St w0 [] w [[(b17, cel (exL.flatMap Sc.lay) 41)]] := S
  refine region_list ?_
  refine list_pure E rfl rfl (by decide) (rn_move E rfl rfl) ?_; clear E a; intro a E
  refine list_call E rfl rfl (by decide) rfl Try.func13 rfl (by kernel_rfl) rfl (cond1 [(b17, _)] _ exL hO (by decide) _ (S.hp.sel (sel_cons (by first | exact pk1 | exact pk2 | exact pk3 | exact pk4 | exact pk5 | exact pk6 | exact pk7 | exact pk8 | exact pk9) (sel_nil _)))) ?_
  rintro v20 w ⟨vc, C, rfl, hC, hT⟩; clear E a; intro a E
  have S := S.call2 (sel_cons (by first | exact pk1 | exact pk2 | exact pk3 | exact pk4 | exact pk5 | exact pk6 | exact pk7 | exact pk8 | exact pk9) (sel_nil _)) hT; rw [x1] at E; rw [condO_of x1 x2] at hC
  refine list_pure E rfl rfl (by decide) (rn_move E rfl rfl) ?_; clear E a; intro a E
  refine list_pure E rfl rfl (by decide) (rn_extract E rfl rfl rfl) ?_; clear E a; intro a E
  refine list_pure E rfl rfl (by decide) (rn_extract E rfl rfl rfl) ?_; clear E a; intro a E
  refine list_pure E rfl rfl (by decide) (rn_assign E rfl rfl) ?_; clear E a; intro a E
  refine list_pure E rfl rfl (by decide) (rn_assign E rfl rfl) ?_; clear E a; intro a E
  refine wpList_nil ?_
  refine then_k hK ?_; clear hK; clear K
  refine wp_seq_k ?_; intro K hK
  refine region_list ?_
  refine list_pure E rfl rfl (by decide) (rn_move E rfl rfl) ?_; clear E a; intro a E
  refine list_call E rfl rfl (by decide) rfl Try.func11 rfl (by kernel_rfl) rfl (rep_ret [(b17, _)] _ exL hO (by decide) _ (S.hp.sel (sel_cons (by first | exact pk1 | exact pk2 | exact pk3 | exact pk4 | exact pk5 | exact pk6 | exact pk7 | exact pk8 | exact pk9) (sel_nil _)))) ?_
  rintro v25 w hrep; clear E a; intro a E
  obtain ⟨q, -⟩ | ⟨-, s, p, A, hs, hG, rfl, hA, hT⟩ := hrep
  · exact absurd x1 q
  obtain rfl : s = [⟨4, 1⟩, ⟨6, 1⟩] := Option.some.inj (hs.symm.trans x2)
  have S := S.call2 (sel_cons (by first | exact pk1 | exact pk2 | exact pk3 | exact pk4 | exact pk5 | exact pk6 | exact pk7 | exact pk8 | exact pk9) (sel_nil _)) hT
  refine list_pure E rfl rfl (by decide) (rn_move E rfl rfl) ?_; clear E a; intro a E
  refine list_pure E rfl rfl (by decide) (rn_extract E rfl rfl rfl) ?_; clear E a; intro a E
  refine list_pure E rfl rfl (by decide) (rn_extract E rfl rfl rfl) ?_; clear E a; intro a E
  refine list_pure E rfl rfl (by decide) (rn_assign E rfl rfl) ?_; clear E a; intro a E
  refine list_pure E rfl rfl (by decide) (rn_assign E rfl rfl) ?_; clear E a; intro a E
  refine wpList_nil ?_
  refine then_k hK ?_; clear hK; clear K
  refine wp_seq_k ?_; intro K hK
  refine region_list ?_
  refine list_pure E rfl rfl (by decide) (rn_move E rfl rfl) ?_; clear E a; intro a E
  refine list_call E rfl rfl (by decide) rfl Try.func9 rfl (by kernel_rfl) rfl (enc1 [(b17, _)] _ exL hO (by decide) _ (S.hp.sel (sel_cons (by first | exact pk1 | exact pk2 | exact pk3 | exact pk4 | exact pk5 | exact pk6 | exact pk7 | exact pk8 | exact pk9) (sel_nil _)))) ?_
  rintro v30 w ⟨ve, B, rfl, hB, hT⟩; clear E a; intro a E
  have S := S.call2 (sel_cons (by first | exact pk1 | exact pk2 | exact pk3 | exact pk4 | exact pk5 | exact pk6 | exact pk7 | exact pk8 | exact pk9) (sel_nil _)) hT; rw [x3] at E
  refine list_pure E rfl rfl (by decide) (rn_move E rfl rfl) ?_; clear E a; intro a E
  refine list_pure E rfl rfl (by decide) (rn_extract E rfl rfl rfl) ?_; clear E a; intro a E
  refine list_pure E rfl rfl (by decide) (rn_extract E rfl rfl rfl) ?_; clear E a; intro a E
  refine list_pure E rfl rfl (by decide) (rn_assign E rfl rfl) ?_; clear E a; intro a E
  refine list_pure E rfl rfl (by decide) (rn_assign E rfl rfl) ?_; clear E a; intro a E
  refine wpList_nil ?_
  refine then_k hK ?_; clear hK; clear K
  refine wp_seq_k ?_; intro K hK
  replace E := E.keep (e' := [(0, _), (1, _), (2, _), (3, _), (4, _), (5, _), (6, _), (7, _)]) (keep_cons rfl (keep_cons rfl (keep_cons rfl (keep_cons rfl (keep_cons rfl (keep_cons rfl (keep_cons rfl (keep_cons rfl (keep_nil)))))))))
  refine region_list ?_
  refine list_pure E rfl rfl (by decide) (rn_move E rfl rfl) ?_; clear E a; intro a E
  refine list_call E rfl rfl (by decide) rfl Try.func19 rfl (by kernel_rfl) rfl (dec1 B ve (encO exL) hB.rd (by decide) _ (S.hp.sel (sel_cons (by first | exact pk1 | exact pk2 | exact pk3 | exact pk4 | exact pk5 | exact pk6 | exact pk7 | exact pk8 | exact pk9) (sel_nil _)))) ?_
  rintro v35 w ⟨vd, D, rfl, hD, hT⟩; clear E a; intro a E
  have S := S.call2 (sel_cons (by first | exact pk1 | exact pk2 | exact pk3 | exact pk4 | exact pk5 | exact pk6 | exact pk7 | exact pk8 | exact pk9) (sel_nil _)) hT; obtain ⟨y1, y2⟩ := dec_some (b := encO exL) (l := exL) (by rw [show encO exL = encB exL.length exL by simp [encO, x3]]; exact dec_enc x3); rw [y1] at E; rw [y2] at hD
  refine list_pure E rfl rfl (by decide) (rn_move E rfl rfl) ?_; clear E a; intro a E
  refine list_pure E rfl rfl (by decide) (rn_extract E rfl rfl rfl) ?_; clear E a; intro a E
  refine list_pure E rfl rfl (by decide) (rn_extract E rfl rfl rfl) ?_; clear E a; intro a E
  refine list_pure E rfl rfl (by decide) (rn_assign E rfl rfl) ?_; clear E a; intro a E
  refine list_pure E rfl rfl (by decide) (rn_assign E rfl rfl) ?_; clear E a; intro a E
  refine wpList_nil ?_
  refine then_k hK ?_; clear hK; clear K
  refine wp_seq_k ?_; intro K hK
  refine region_list ?_
  refine list_pure E rfl rfl (by decide) (rn_move E rfl rfl) ?_; clear E a; intro a E
  refine list_pure E rfl rfl (by decide) (rn_move E rfl rfl) ?_; clear E a; intro a E
  refine list_call E rfl rfl (by decide) rfl Try.func16 rfl (by kernel_rfl) rfl (spsame_ret [(b17, _)] D _ _ exL exL hO hD.rd _ (S.hp.sel (sel_cons (by first | exact pk1 | exact pk2 | exact pk3 | exact pk4 | exact pk5 | exact pk6 | exact pk7 | exact pk8 | exact pk9) (sel_cons (by first | exact pk1 | exact pk2 | exact pk3 | exact pk4 | exact pk5 | exact pk6 | exact pk7 | exact pk8 | exact pk9) (sel_nil _))))) ?_
  rintro v40 w ⟨rfl, hT⟩; clear E a; intro a E
  have S := S.call2 (sel_cons (by first | exact pk1 | exact pk2 | exact pk3 | exact pk4 | exact pk5 | exact pk6 | exact pk7 | exact pk8 | exact pk9) (sel_cons (by first | exact pk1 | exact pk2 | exact pk3 | exact pk4 | exact pk5 | exact pk6 | exact pk7 | exact pk8 | exact pk9) (sel_nil _))) hT; rw [show decide (exL = exL) = true by simp] at E; obtain ⟨ad, c, rfl⟩ := hC.slice
  refine list_pure E rfl rfl (by decide) (rn_assign E rfl rfl) ?_; clear E a; intro a E
  refine wpList_nil ?_
  refine then_k hK ?_; clear hK; clear K
  refine wp_seq_k ?_; intro K hK
  refine region_list ?_
  refine list_pure E rfl rfl (by decide) (rn_move E rfl rfl) ?_; clear E a; intro a E
  refine list_pure E rfl rfl (by decide) (by first | exact rn_eql E rfl rfl rfl | exact rn_eql_ptr_nil E rfl rfl rfl rfl | exact rn_eql_bool E rfl rfl rfl rfl | exact rn_eql_string E rfl rfl rfl) ?_; clear E a; intro a E
  refine list_pure E rfl rfl (by decide) (rn_move E rfl rfl) ?_; clear E a; intro a E
  refine guard_true E (t := 43) rfl (rfl) (fun hb43 => ?_)
  refine list_guard_yes E rfl rfl rfl rfl hb43 rfl (by decide) (rn_move E rfl rfl) ?_; clear E a; intro a E
  refine list_guard_yes E rfl rfl rfl rfl hb43 rfl (by decide) (by first | exact rn_eql E rfl rfl rfl | exact rn_eql_ptr_nil E rfl rfl rfl rfl | exact rn_eql_bool E rfl rfl rfl rfl | exact rn_eql_string E rfl rfl rfl) ?_; clear E a; intro a E
  refine list_pure E rfl rfl (by decide) (rn_pick_yes' E rfl rfl hb43 rfl) ?_; clear E a; intro a E
  refine list_pure E rfl rfl (by decide) (rn_move E rfl rfl) ?_; clear E a; intro a E
  refine guard_true E (t := 47) rfl (rfl) (fun hb47 => ?_)
  refine list_guard_yes E rfl rfl rfl rfl hb47 rfl (by decide) (rn_move E rfl rfl) ?_; clear E a; intro a E
  refine list_guard_yes E rfl rfl rfl rfl hb47 rfl (by decide) (by first | exact rn_eql E rfl rfl rfl | exact rn_eql_ptr_nil E rfl rfl rfl rfl | exact rn_eql_bool E rfl rfl rfl rfl | exact rn_eql_string E rfl rfl rfl) ?_; clear E a; intro a E
  refine list_pure E rfl rfl (by decide) (rn_pick_yes' E rfl rfl hb47 rfl) ?_; clear E a; intro a E
  refine list_pure E rfl rfl (by decide) (rn_move E rfl rfl) ?_; clear E a; intro a E
  refine guard_true E (t := 51) rfl (rfl) (fun hb51 => ?_)
  refine list_guard_yes E rfl rfl rfl rfl hb51 rfl (by decide) (rn_move E rfl rfl) ?_; clear E a; intro a E
  refine list_guard_yes E rfl rfl rfl rfl hb51 rfl (by decide) (by first | exact rn_eql E rfl rfl rfl | exact rn_eql_ptr_nil E rfl rfl rfl rfl | exact rn_eql_bool E rfl rfl rfl rfl | exact rn_eql_string E rfl rfl rfl) ?_; clear E a; intro a E
  refine list_pure E rfl rfl (by decide) (rn_pick_yes' E rfl rfl hb51 rfl) ?_; clear E a; intro a E
  refine list_pure E rfl rfl (by decide) (rn_move E rfl rfl) ?_; clear E a; intro a E
  refine guard_true E (t := 55) rfl (rfl) (fun hb55 => ?_)
  refine list_guard_yes E rfl rfl rfl rfl hb55 rfl (by decide) (rn_move E rfl rfl) ?_; clear E a; intro a E
  refine list_pure E rfl rfl (by decide) (rn_pick_yes' E rfl rfl hb55 rfl) ?_; clear E a; intro a E
  refine list_pure E rfl rfl (by decide) (rn_move E rfl rfl) ?_; clear E a; intro a E
  refine guard_true E (t := 58) rfl (rfl) (fun hb58 => ?_)
  refine list_guard_yes E rfl rfl rfl rfl hb58 rfl (by decide) (rn_move E rfl rfl) ?_; clear E a; intro a E
  refine list_guard_yes E rfl rfl rfl rfl hb58 rfl (by decide) (by first | exact rn_len E rfl rfl rfl | exact rn_len_str E rfl rfl rfl | exact rn_len_string E rfl rfl rfl) ?_; clear E a; intro a E
  refine list_guard_yes E rfl rfl rfl rfl hb58 rfl (by decide) (by first | exact rn_eql E rfl rfl rfl | exact rn_eql_ptr_nil E rfl rfl rfl rfl | exact rn_eql_bool E rfl rfl rfl rfl | exact rn_eql_string E rfl rfl rfl) ?_; clear E a; intro a E
  refine list_pure E rfl rfl (by decide) (rn_pick_yes' E rfl rfl hb58 rfl) ?_; clear E a; intro a E
  refine list_pure E rfl rfl (by decide) (rn_move E rfl rfl) ?_; clear E a; intro a E
  refine guard_true E (t := 63) rfl (rfl) (fun hb63 => ?_)
  refine list_guard_yes E rfl rfl rfl rfl hb63 rfl (by decide) (rn_move E rfl rfl) ?_; clear E a; intro a E
  refine list_guard_yes E rfl rfl rfl rfl hb63 rfl (by decide) (by first | exact rn_neq E rfl rfl rfl | exact rn_neq_ptr_nil E rfl rfl rfl rfl | exact rn_neq_bool E rfl rfl rfl rfl | exact rn_neq_string E rfl rfl rfl) ?_; clear E a; intro a E
  refine list_pure E rfl rfl (by decide) (rn_pick_yes' E rfl rfl hb63 rfl) ?_; clear E a; intro a E
  refine list_pure E rfl rfl (by decide) (rn_move E rfl rfl) ?_; clear E a; intro a E
  refine guard_true E (t := 67) rfl (rfl) (fun hb67 => ?_)
  refine list_guard_yes E rfl rfl rfl rfl hb67 rfl (by decide) (rn_move E rfl rfl) ?_; clear E a; intro a E
  refine list_guard_wp E rfl rfl rfl rfl hb67 ?_; refine wp_call' E rfl (by decide) rfl Try.func21 rfl (by kernel_rfl) rfl (many_ret p _ _ A _ hA (S.hp.sel (sel_cons (by first | exact pk1 | exact pk2 | exact pk3 | exact pk4 | exact pk5 | exact pk6 | exact pk7 | exact pk8 | exact pk9) (sel_nil _)))) ?_
  rintro v69 w ⟨rfl, hT⟩; clear E a; intro a E
  have S := S.call1 (sel_cons (by first | exact pk1 | exact pk2 | exact pk3 | exact pk4 | exact pk5 | exact pk6 | exact pk7 | exact pk8 | exact pk9) (sel_nil _)) hT
  refine list_guard_yes E rfl rfl rfl rfl hb67 rfl (by decide) (by first | exact rn_eql E rfl rfl rfl | exact rn_eql_ptr_nil E rfl rfl rfl rfl | exact rn_eql_bool E rfl rfl rfl rfl | exact rn_eql_string E rfl rfl rfl) ?_; clear E a; intro a E
  refine list_pure E rfl rfl (by decide) (rn_pick_yes' E rfl rfl hb67 rfl) ?_; clear E a; intro a E
  refine list_pure E rfl rfl (by decide) (rn_assign E rfl rfl) ?_; clear E a; intro a E
  refine wpList_nil ?_
  refine then_k hK ?_; clear hK; clear K
  refine wp_ret ?_
  refine ret1 E rfl rfl ?_
  exact ⟨_, rfl, rfl, (S.only (Bs := []) (sel_nil _)).tr⟩

theorem reads_walk (O : Chunk) (v : Value) (b : List UInt8) (hO : Rd O 1 v b.length (byt b)) (hl : b.length ≤ 140737488351232) (w0 : World) (H : Hp w0 [O]) :
    Ret Try.prog 4 #[v] w0 fun u w' => u = .bool true ∧ Trs w0 w' [O] [O] := by
  have S := St.begin H
  refine enter1 32 Try.func4 rfl rfl (by decide) ?_; intro a E
  refine wp_seq_k ?_; intro K hK
  refine region_list ?_
  refine list_pure E rfl rfl (by decide) (rn_assign E rfl rfl) ?_; clear E a; intro a E
  refine wpList_nil ?_
  refine then_k hK ?_; clear hK; clear K
  refine wp_seq_k ?_; intro K hK
  refine region_list ?_
  refine list_call E rfl rfl (by decide) rfl Try.func7 rfl (by kernel_rfl) rfl (awake_ret _) ?_
  rintro v9 w ⟨rfl, hT⟩; clear E a; intro a E
  have S := S.quiet hT
  refine list_pure E rfl rfl (by decide) (rn_assign E rfl rfl) ?_; clear E a; intro a E
  refine wpList_nil ?_
  refine then_k hK ?_; clear hK; clear K
  refine wp_seq_k ?_; intro K hK
  refine region_list ?_
  refine list_pure E rfl rfl (by decide) (rn_move E rfl rfl) ?_; clear E a; intro a E
  refine list_call E rfl rfl (by decide) rfl Try.func19 rfl (by kernel_rfl) rfl (dec1 O v b hO (by omega) _ (S.hp.sel (sel_cons (by first | exact pk1 | exact pk2 | exact pk3 | exact pk4 | exact pk5 | exact pk6 | exact pk7 | exact pk8 | exact pk9) (sel_nil _)))) ?_
  rintro v12 w ⟨vc, C, rfl, hC, hT⟩; clear E a; intro a E
  have S := S.call2 (sel_cons (by first | exact pk1 | exact pk2 | exact pk3 | exact pk4 | exact pk5 | exact pk6 | exact pk7 | exact pk8 | exact pk9) (sel_nil _)) hT
  refine list_pure E rfl rfl (by decide) (rn_move E rfl rfl) ?_; clear E a; intro a E
  refine list_pure E rfl rfl (by decide) (rn_extract E rfl rfl rfl) ?_; clear E a; intro a E
  refine list_pure E rfl rfl (by decide) (rn_extract E rfl rfl rfl) ?_; clear E a; intro a E
  refine list_pure E rfl rfl (by decide) (rn_assign E rfl rfl) ?_; clear E a; intro a E
  refine list_pure E rfl rfl (by decide) (rn_assign E rfl rfl) ?_; clear E a; intro a E
  refine wpList_nil ?_
  refine then_k hK ?_; clear hK; clear K
  refine wp_seq_k ?_; intro K hK
  refine region_list ?_
  refine list_pure E rfl rfl (by decide) (rn_move E rfl rfl) ?_; clear E a; intro a E
  refine list_call E rfl rfl (by decide) rfl Try.func20 rfl (by kernel_rfl) rfl (ddec1 O v b hO (by omega) _ (S.hp.sel (sel_cons (by first | exact pk1 | exact pk2 | exact pk3 | exact pk4 | exact pk5 | exact pk6 | exact pk7 | exact pk8 | exact pk9) (sel_nil _)))) ?_
  rintro v17 w ⟨vd, D, rfl, hD, hT⟩; clear E a; intro a E
  have S := S.call2 (sel_cons (by first | exact pk1 | exact pk2 | exact pk3 | exact pk4 | exact pk5 | exact pk6 | exact pk7 | exact pk8 | exact pk9) (sel_nil _)) hT
  refine list_pure E rfl rfl (by decide) (rn_move E rfl rfl) ?_; clear E a; intro a E
  refine list_pure E rfl rfl (by decide) (rn_extract E rfl rfl rfl) ?_; clear E a; intro a E
  refine list_pure E rfl rfl (by decide) (rn_extract E rfl rfl rfl) ?_; clear E a; intro a E
  refine list_pure E rfl rfl (by decide) (rn_assign E rfl rfl) ?_; clear E a; intro a E
  refine list_pure E rfl rfl (by decide) (rn_assign E rfl rfl) ?_; clear E a; intro a E
  refine wpList_nil ?_
  refine then_k hK ?_; clear hK; clear K
  refine wp_seq_k ?_; intro K hK
  refine region_list ?_
  refine list_pure E rfl rfl (by decide) (rn_move E rfl rfl) ?_; clear E a; intro a E
  refine list_pure E rfl rfl (by decide) (rn_move E rfl rfl) ?_; clear E a; intro a E
  refine list_call E rfl rfl (by decide) rfl Try.func16 rfl (by kernel_rfl) rfl (spsame_ret C D _ _ (decO b) (decO b) hC.rd hD.rd _ (S.hp.sel (sel_cons (by first | exact pk1 | exact pk2 | exact pk3 | exact pk4 | exact pk5 | exact pk6 | exact pk7 | exact pk8 | exact pk9) (sel_cons (by first | exact pk1 | exact pk2 | exact pk3 | exact pk4 | exact pk5 | exact pk6 | exact pk7 | exact pk8 | exact pk9) (sel_nil _))))) ?_
  rintro v22 w ⟨rfl, hT⟩; clear E a; intro a E
  have S := S.call2 (sel_cons (by first | exact pk1 | exact pk2 | exact pk3 | exact pk4 | exact pk5 | exact pk6 | exact pk7 | exact pk8 | exact pk9) (sel_cons (by first | exact pk1 | exact pk2 | exact pk3 | exact pk4 | exact pk5 | exact pk6 | exact pk7 | exact pk8 | exact pk9) (sel_nil _))) hT; rw [show decide (decO b = decO b) = true by simp] at E
  refine list_pure E rfl rfl (by decide) (rn_assign E rfl rfl) ?_; clear E a; intro a E
  refine wpList_nil ?_
  refine then_k hK ?_; clear hK; clear K
  refine wp_seq_k ?_; intro K hK
  refine region_list ?_
  refine list_pure E rfl rfl (by decide) (rn_move E rfl rfl) ?_; clear E a; intro a E
  refine list_pure E rfl rfl (by decide) (rn_move E rfl rfl) ?_; clear E a; intro a E
  refine guard_true E (t := 24) rfl (rfl) (fun hb24 => ?_)
  refine list_guard_yes E rfl rfl rfl rfl hb24 rfl (by decide) (rn_move E rfl rfl) ?_; clear E a; intro a E
  refine list_pure E rfl rfl (by decide) (rn_pick_yes' E rfl rfl hb24 rfl) ?_; clear E a; intro a E
  refine list_pure E rfl rfl (by decide) (rn_move E rfl rfl) ?_; clear E a; intro a E
  refine guard_true E (t := 27) rfl (rfl) (fun hb27 => ?_)
  refine list_guard_yes E rfl rfl rfl rfl hb27 rfl (by decide) (rn_move E rfl rfl) ?_; clear E a; intro a E
  refine list_guard_yes E rfl rfl rfl rfl hb27 rfl (by decide) (rn_move E rfl rfl) ?_; clear E a; intro a E
  refine list_guard_yes E rfl rfl rfl rfl hb27 rfl (by decide) (by first | exact rn_eql E rfl rfl rfl | exact rn_eql_ptr_nil E rfl rfl rfl rfl | exact rn_eql_bool E rfl rfl rfl rfl | exact rn_eql_string E rfl rfl rfl) ?_; clear E a; intro a E
  refine list_pure E rfl rfl (by decide) (rn_pick_yes' E rfl rfl hb27 rfl) ?_; clear E a; intro a E
  refine list_pure E rfl rfl (by decide) (rn_assign E rfl rfl) ?_; clear E a; intro a E
  refine wpList_nil ?_
  refine then_k hK ?_; clear hK; clear K
  refine wp_ret ?_
  refine ret1 E rfl rfl ?_
  exact ⟨_, rfl, by simp, (S.only (Bs := [O]) (sel_cons (by first | exact pk1 | exact pk2 | exact pk3 | exact pk4 | exact pk5 | exact pk6 | exact pk7 | exact pk8 | exact pk9) (sel_nil _))).tr⟩
end Go.Proofs.Ytkkpeggkoijlhaa
