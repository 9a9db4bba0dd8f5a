/-
  Texts put together (12).
-/
import Derived.Test.YtbogecljkaimdaaGreatDoorZRecordStreams11
namespace Go.Sl
theorem dotI (c : UInt8) : dotB c = (((c.toNat : Int) == 46) || ((c.toNat : Int) == 95) || ((c.toNat : Int) == 45)) := by
  rw [Bool.eq_iff_iff, dotB_iff]; simp; omega
def okB (c : UInt8) (i : Nat) : Bool := letB c || (!((i : Int) == 0) && dotB c)
theorem okB_at {l : List UInt8} {i : Nat} (h : i < l.length) : okB l[i] i = true ↔ okAt l i h := by
  simp [okB, okAt]
end Go.Sl
namespace Go.Proofs.YtbogecljkaimdaaGreatDoor
open Go.Sl
set_option maxRecDepth 10000
theorem zLh (l : List UInt8) (hl : l.length ≤ 140737488355328) (As : List zAy) (w0 : World) (H : Hp w0 As) :
    Ret Tryz.prog 78 #[str l] w0 fun u w' => u = .bool (zFv l) ∧ Trs w0 w' As As := by
  have S := St.begin H
  refine zCx 55 Tryz.func78 rfl rfl (by decide) ?_; intro a E
  refine wp_seq_k ?_; intro K hK
  refine zAb ?_
  refine zp E (zAd E rfl rfl) ?_; clear E a; intro a E
  refine wpList_nil ?_
  refine zAf hK ?_; clear hK; clear K
  iterate 2 (refine wp_seq_k ?_; intro K hK)
  refine zDw (fun (a : Act) (w' : World) => ∃ z, (z = true ↔ (l.length < 1 ∨ 24 < l.length)) ∧ St w0 As w' As ∧ Fr a 55 [(0, str l), (2, .bool false), (13, .bool z)]) ?_ ?_
  · skip
    refine zAb ?_
    refine zp E (zAe E rfl rfl) ?_; clear E a; intro a E
    refine zp E (by first | exact zBx E rfl rfl rfl | exact zAx E rfl rfl rfl | exact zAq E rfl rfl rfl) ?_; clear E a; intro a E
    refine zp E (zCn E rfl rfl rfl) ?_; clear E a; intro a E
    refine zp E (zAe E rfl rfl) ?_; clear E a; intro a E
    refine zAs E (t := 9) rfl (fun hb9 => ?_) (fun hb9 => ?_)
    · have hb9n := hb9; replace hb9n := Nrm.nrm hb9n
      iterate 3 (refine zn E hb9 ?_; clear E a; intro a E)
      refine zp E (zAl E rfl rfl hb9 rfl) ?_; clear E a; intro a E
      refine wpList_nil ?_
      refine zAu ?_
      exact ⟨_, ⟨fun q => by first | omega | (simp only [decide_eq_true_eq] at q; omega) | (simp at q; omega) | exact Bool.noConfusion q, fun q => by first | rfl | (simp only [decide_eq_true_eq]; omega) | (exfalso; omega) | (simp; omega)⟩, S, E.keep (zAa rfl (zAa rfl (zAa rfl zAm)))⟩
    · have hb9n := hb9; replace hb9n := Nrm.nrm hb9n
      refine zy E hb9 (zAe E rfl rfl) ?_; clear E a; intro a E
      refine zy E hb9 (by first | exact zBx E rfl rfl rfl | exact zAx E rfl rfl rfl | exact zAq E rfl rfl rfl) ?_; clear E a; intro a E
      refine zy E hb9 (zDm E rfl rfl rfl) ?_; clear E a; intro a E
      refine zp E (zAi E rfl rfl hb9 rfl) ?_; clear E a; intro a E
      refine wpList_nil ?_
      refine zAu ?_
      exact ⟨_, ⟨fun q => by first | omega | (simp only [decide_eq_true_eq] at q; omega) | (simp at q; omega) | exact Bool.noConfusion q, fun q => by first | rfl | (simp only [decide_eq_true_eq]; omega) | (exfalso; omega) | (simp; omega)⟩, S, E.keep (zAa rfl (zAa rfl (zAa rfl zAm)))⟩
  · clear E S a; intro a w J; obtain ⟨_, hz, S, E⟩ := J
    refine zAf hK ?_; clear hK; clear K
    refine zBf E rfl (fun hb => ?_) (fun hb => ?_)
    · replace hb := Nrm.nrm hb
      have hb := hz.1 hb
      refine wp_seq_k ?_; intro K hK
      refine zAb ?_
      refine zp E (zAd E rfl rfl) ?_; clear E a; intro a E
      refine wpList_nil ?_
      refine zAf hK ?_; clear hK; clear K
      refine wp_ret ?_
      refine zAv ?_; clear hK; clear K
      refine ret1 E rfl rfl ?_
      exact ⟨_, rfl, by rw [partB_no]; intro h; have := h.1; have := h.2.1; omega, S.tr⟩
    · replace hb := Nrm.nrm hb
      have hb : ¬ (l.length < 1 ∨ 24 < l.length) := fun q => by rw [hz.2 q] at hb; cases hb
      refine wp_skip ?_
      refine zAf hK ?_; clear hK; clear K
      iterate 2 (refine wp_seq_k ?_; intro K hK)
      refine zAb ?_
      refine zp E (zAd E rfl rfl) ?_; clear E a; intro a E
      refine wpList_nil ?_
      refine zAf hK ?_; clear hK; clear K
      refine wp_block ?_
      refine wp_loop_ghost (fun (m : Nat) (a : Act) (w' : World) => ∃ i : Nat, m = l.length - i ∧ i ≤ l.length ∧ (∀ k, ∀ hk : k < l.length, k < i → okAt l k hk) ∧ St w0 As w' As ∧ Fr a 55 [(0, str l), (2, .bool false), (3, .int .i64 i)]) (l.length) ?_ ?_
      · exact ⟨0, by omega, by omega, by intro k _ h; omega, S, E.keep (zAa rfl (zAa rfl (zAa rfl zAm)))⟩
      clear E; clear a; (try clear S); rintro m a w ⟨i, rfl, hi, hok, S, E⟩
      iterate 2 (refine wp_seq_k ?_; intro K hK)
      refine zAb ?_
      iterate 2 (refine zp E (zAe E rfl rfl) ?_; clear E a; intro a E)
      refine zp E (by first | exact zBx E rfl rfl rfl | exact zAx E rfl rfl rfl | exact zAq E rfl rfl rfl) ?_; clear E a; intro a E
      refine zp E (zCn E rfl rfl rfl) ?_; clear E a; intro a E
      refine wpList_nil ?_
      refine zAf hK ?_; clear hK; clear K
      refine zBf E rfl (fun hb => ?_) (fun hb => ?_)
      · replace hb := Nrm.nrm hb
        refine wp_skip ?_
        refine zAf hK ?_; clear hK; clear K
        refine wp_seq_k ?_; intro K hK
        refine wp_block ?_
        refine wp_seq_k ?_; intro K hK
        have hil : i < l.length := by omega
        refine zAb ?_
        iterate 2 (refine zp E (zAe E rfl rfl) ?_; clear E a; intro a E)
        refine zp E (by first | exact zEo E rfl rfl rfl rfl rfl (by assumption) | exact zDi E rfl rfl rfl rfl rfl (by omega)) ?_; clear E a; intro a E
        refine zp E (zAd E rfl rfl) ?_; clear E a; intro a E
        refine wpList_nil ?_
        refine zAf hK ?_; clear hK; clear K
        refine wp_seq_k ?_; intro K hK
        obtain ⟨c, hc⟩ : ∃ c, c = l[i] := ⟨_, rfl⟩
        rw [← hc] at E
        refine zDw (fun (a : Act) (w' : World) => ∃ z, (z = true ↔ ((97 ≤ c.toNat ∧ c.toNat ≤ 122) ∨ (48 ≤ c.toNat ∧ c.toNat ≤ 57))) ∧ St w0 As w' As ∧ Fr a 55 [(0, str l), (2, .bool false), (3, .int .i64 i), (4, .int .u8 c.toNat), (5, .bool z)]) ?_ ?_
        · skip
          refine zAb ?_
          refine zp E (zAe E rfl rfl) ?_; clear E a; intro a E
          refine zp E (zEd E rfl rfl rfl) ?_; clear E a; intro a E
          refine zp E (zAe E rfl rfl) ?_; clear E a; intro a E
          refine zAs E (t := 25) rfl (fun hb25 => ?_) (fun hb25 => ?_)
          · have hb25n := hb25; replace hb25n := Nrm.nrm hb25n
            refine zy E hb25 (zAe E rfl rfl) ?_; clear E a; intro a E
            refine zy E hb25 (zEi E rfl rfl rfl) ?_; clear E a; intro a E
            refine zp E (zAl E rfl rfl hb25 rfl) ?_; clear E a; intro a E
            refine zp E (zAe E rfl rfl) ?_; clear E a; intro a E
            refine zAs E (t := 29) rfl (fun hb29 => ?_) (fun hb29 => ?_)
            · have hb29n := hb29; replace hb29n := Nrm.nrm hb29n
              iterate 3 (refine zn E hb29 ?_; clear E a; intro a E)
              iterate 2 (refine zu E ?_; clear E a; intro a E)
              refine zn E hb29 ?_; clear E a; intro a E
              refine zp E (zAl E rfl rfl hb29 rfl) ?_; clear E a; intro a E
              refine zp E (zAd E rfl rfl) ?_; clear E a; intro a E
              refine wpList_nil ?_
              refine zAu ?_
              exact ⟨_, ⟨fun q => by first | omega | (simp only [decide_eq_true_eq] at q; omega) | (simp at q; omega) | exact Bool.noConfusion q, fun q => by first | rfl | (simp only [decide_eq_true_eq]; omega) | (exfalso; omega) | (simp; omega)⟩, S, E.keep (zAa rfl (zAa rfl (zAa rfl (zAa rfl (zAa rfl zAm)))))⟩
            · have hb29n := hb29; replace hb29n := Nrm.nrm hb29n
              refine zy E hb29 (zAe E rfl rfl) ?_; clear E a; intro a E
              refine zy E hb29 (zEd E rfl rfl rfl) ?_; clear E a; intro a E
              refine zy E hb29 (zAe E rfl rfl) ?_; clear E a; intro a E
              refine zAs E (t := 32) rfl (fun hb32 => ?_) (fun hb32 => ?_)
              · have hb32n := hb32; replace hb32n := Nrm.nrm hb32n
                refine zy E hb32 (zAe E rfl rfl) ?_; clear E a; intro a E
                refine zy E hb32 (zEi E rfl rfl rfl) ?_; clear E a; intro a E
                refine zy E hb29 (zAl E rfl rfl hb32 rfl) ?_; clear E a; intro a E
                refine zp E (zAi E rfl rfl hb29 rfl) ?_; clear E a; intro a E
                refine zp E (zAd E rfl rfl) ?_; clear E a; intro a E
                refine wpList_nil ?_
                refine zAu ?_
                exact ⟨_, ⟨fun q => by first | omega | (simp only [decide_eq_true_eq] at q; omega) | (simp at q; omega) | exact Bool.noConfusion q, fun q => by first | rfl | (simp only [decide_eq_true_eq]; omega) | (exfalso; omega) | (simp; omega)⟩, S, E.keep (zAa rfl (zAa rfl (zAa rfl (zAa rfl (zAa rfl zAm)))))⟩
              · have hb32n := hb32; replace hb32n := Nrm.nrm hb32n
                iterate 2 (refine zn E hb32 ?_; clear E a; intro a E)
                refine zy E hb29 (zAi E rfl rfl hb32 rfl) ?_; clear E a; intro a E
                refine zp E (zAi E rfl rfl hb29 rfl) ?_; clear E a; intro a E
                refine zp E (zAd E rfl rfl) ?_; clear E a; intro a E
                refine wpList_nil ?_
                refine zAu ?_
                exact ⟨_, ⟨fun q => by first | omega | (simp only [decide_eq_true_eq] at q; omega) | (simp at q; omega) | exact Bool.noConfusion q, fun q => by first | rfl | (simp only [decide_eq_true_eq]; omega) | (exfalso; omega) | (simp; omega)⟩, S, E.keep (zAa rfl (zAa rfl (zAa rfl (zAa rfl (zAa rfl zAm)))))⟩
          · have hb25n := hb25; replace hb25n := Nrm.nrm hb25n
            iterate 2 (refine zn E hb25 ?_; clear E a; intro a E)
            refine zp E (zAi E rfl rfl hb25 rfl) ?_; clear E a; intro a E
            refine zp E (zAe E rfl rfl) ?_; clear E a; intro a E
            refine zy E rfl (zAe E rfl rfl) ?_; clear E a; intro a E
            refine zy E rfl (zEd E rfl rfl rfl) ?_; clear E a; intro a E
            refine zy E rfl (zAe E rfl rfl) ?_; clear E a; intro a E
            refine zAs E (t := 32) rfl (fun hb32 => ?_) (fun hb32 => ?_)
            · have hb32n := hb32; replace hb32n := Nrm.nrm hb32n
              refine zy E hb32 (zAe E rfl rfl) ?_; clear E a; intro a E
              refine zy E hb32 (zEi E rfl rfl rfl) ?_; clear E a; intro a E
              refine zy E rfl (zAl E rfl rfl hb32 rfl) ?_; clear E a; intro a E
              refine zp E (zAi E rfl rfl rfl rfl) ?_; clear E a; intro a E
              refine zp E (zAd E rfl rfl) ?_; clear E a; intro a E
              refine wpList_nil ?_
              refine zAu ?_
              exact ⟨_, ⟨fun q => by first | omega | (simp only [decide_eq_true_eq] at q; omega) | (simp at q; omega) | exact Bool.noConfusion q, fun q => by first | rfl | (simp only [decide_eq_true_eq]; omega) | (exfalso; omega) | (simp; omega)⟩, S, E.keep (zAa rfl (zAa rfl (zAa rfl (zAa rfl (zAa rfl zAm)))))⟩
            · have hb32n := hb32; replace hb32n := Nrm.nrm hb32n
              iterate 2 (refine zn E hb32 ?_; clear E a; intro a E)
              refine zy E rfl (zAi E rfl rfl hb32 rfl) ?_; clear E a; intro a E
              refine zp E (zAi E rfl rfl rfl rfl) ?_; clear E a; intro a E
              refine zp E (zAd E rfl rfl) ?_; clear E a; intro a E
              refine wpList_nil ?_
              refine zAu ?_
              exact ⟨_, ⟨fun q => by first | omega | (simp only [decide_eq_true_eq] at q; omega) | (simp at q; omega) | exact Bool.noConfusion q, fun q => by first | rfl | (simp only [decide_eq_true_eq]; omega) | (exfalso; omega) | (simp; omega)⟩, S, E.keep (zAa rfl (zAa rfl (zAa rfl (zAa rfl (zAa rfl zAm)))))⟩
        · clear E S a; intro a w J; obtain ⟨z, hz, S, E⟩ := J
          obtain rfl : z = letB c := by rw [Bool.eq_iff_iff, zHu]; exact hz
          refine zAf hK ?_; clear hK; clear K
          refine wp_seq_k ?_; intro K hK
          refine zDw (fun (a : Act) (w' : World) => ∃ z, z = !okB c i ∧ St w0 As w' As ∧ Fr a 55 [(0, str l), (2, .bool false), (3, .int .i64 i), (54, .bool z)]) ?_ ?_
          · skip
            refine zAb ?_
            refine zp E (zAe E rfl rfl) ?_; clear E a; intro a E
            refine zp E (zDq E rfl rfl) ?_; clear E a; intro a E
            refine zp E (zAe E rfl rfl) ?_; clear E a; intro a E
            refine zAs E (t := 39) rfl (fun hb39 => ?_) (fun hb39 => ?_)
            · have hb39n := hb39; replace hb39n := Nrm.nrm hb39n
              refine zy E hb39 (zAe E rfl rfl) ?_; clear E a; intro a E
              refine zy E hb39 (by first | exact zCe E rfl rfl rfl | exact zAt E rfl rfl rfl rfl | exact zBd E rfl rfl rfl rfl | exact zAw E rfl rfl rfl) ?_; clear E a; intro a E
              refine zy E hb39 (zAe E rfl rfl) ?_; clear E a; intro a E
              refine zAs E (t := 42) rfl (fun hb42 => ?_) (fun hb42 => ?_)
              · have hb42n := hb42; replace hb42n := Nrm.nrm hb42n
                iterate 3 (refine zn E hb42 ?_; clear E a; intro a E)
                iterate 2 (refine zu E ?_; clear E a; intro a E)
                iterate 2 (refine zn E hb42 ?_; clear E a; intro a E)
                iterate 2 (refine zu E ?_; clear E a; intro a E)
                refine zn E hb42 ?_; clear E a; intro a E
                refine zy E hb39 (zAl E rfl rfl hb42 rfl) ?_; clear E a; intro a E
                refine zp E (zAl E rfl rfl hb39 rfl) ?_; clear E a; intro a E
                refine wpList_nil ?_
                refine zAu ?_
                exact ⟨_, by unfold okB; rw [dotI]; clear E S hz; simp_all <;> (rw [Bool.eq_iff_iff]; simp; omega), S, E.keep (zAa rfl (zAa rfl (zAa rfl (zAa rfl zAm))))⟩
              · have hb42n := hb42; replace hb42n := Nrm.nrm hb42n
                refine zy E hb42 (zAe E rfl rfl) ?_; clear E a; intro a E
                refine zy E hb42 (by first | exact zCu E rfl rfl rfl | exact zBg E rfl rfl rfl rfl | exact zBr E rfl rfl rfl rfl | exact zBk E rfl rfl rfl) ?_; clear E a; intro a E
                refine zy E hb42 (zAe E rfl rfl) ?_; clear E a; intro a E
                refine zAs E (t := 45) rfl (fun hb45 => ?_) (fun hb45 => ?_)
                · have hb45n := hb45; replace hb45n := Nrm.nrm hb45n
                  refine zy E hb45 (zAe E rfl rfl) ?_; clear E a; intro a E
                  refine zy E hb45 (by first | exact zCu E rfl rfl rfl | exact zBg E rfl rfl rfl rfl | exact zBr E rfl rfl rfl rfl | exact zBk E rfl rfl rfl) ?_; clear E a; intro a E
                  refine zy E hb42 (zAl E rfl rfl hb45 rfl) ?_; clear E a; intro a E
                  refine zy E hb42 (zAe E rfl rfl) ?_; clear E a; intro a E
                  refine zAs E (t := 49) rfl (fun hb49 => ?_) (fun hb49 => ?_)
                  · have hb49n := hb49; replace hb49n := Nrm.nrm hb49n
                    refine zy E hb49 (zAe E rfl rfl) ?_; clear E a; intro a E
                    refine zy E hb49 (by first | exact zCu E rfl rfl rfl | exact zBg E rfl rfl rfl rfl | exact zBr E rfl rfl rfl rfl | exact zBk E rfl rfl rfl) ?_; clear E a; intro a E
                    refine zy E hb42 (zAl E rfl rfl hb49 rfl) ?_; clear E a; intro a E
                    refine zy E hb39 (zAi E rfl rfl hb42 rfl) ?_; clear E a; intro a E
                    refine zp E (zAl E rfl rfl hb39 rfl) ?_; clear E a; intro a E
                    refine wpList_nil ?_
                    refine zAu ?_
                    exact ⟨_, by unfold okB; rw [dotI]; clear E S hz; simp_all <;> (rw [Bool.eq_iff_iff]; simp; omega), S, E.keep (zAa rfl (zAa rfl (zAa rfl (zAa rfl zAm))))⟩
                  · have hb49n := hb49; replace hb49n := Nrm.nrm hb49n
                    iterate 2 (refine zn E hb49 ?_; clear E a; intro a E)
                    refine zy E hb42 (zAi E rfl rfl hb49 rfl) ?_; clear E a; intro a E
                    refine zy E hb39 (zAi E rfl rfl hb42 rfl) ?_; clear E a; intro a E
                    refine zp E (zAl E rfl rfl hb39 rfl) ?_; clear E a; intro a E
                    refine wpList_nil ?_
                    refine zAu ?_
                    exact ⟨_, by unfold okB; rw [dotI]; clear E S hz; simp_all <;> (rw [Bool.eq_iff_iff]; simp; omega), S, E.keep (zAa rfl (zAa rfl (zAa rfl (zAa rfl zAm))))⟩
                · have hb45n := hb45; replace hb45n := Nrm.nrm hb45n
                  iterate 2 (refine zn E hb45 ?_; clear E a; intro a E)
                  refine zy E hb42 (zAi E rfl rfl hb45 rfl) ?_; clear E a; intro a E
                  refine zy E hb42 (zAe E rfl rfl) ?_; clear E a; intro a E
                  iterate 2 (refine zn E rfl ?_; clear E a; intro a E)
                  refine zy E hb42 (zAi E rfl rfl rfl rfl) ?_; clear E a; intro a E
                  refine zy E hb39 (zAi E rfl rfl hb42 rfl) ?_; clear E a; intro a E
                  refine zp E (zAl E rfl rfl hb39 rfl) ?_; clear E a; intro a E
                  refine wpList_nil ?_
                  refine zAu ?_
                  exact ⟨_, by unfold okB; rw [dotI]; clear E S hz; simp_all <;> (rw [Bool.eq_iff_iff]; simp; omega), S, E.keep (zAa rfl (zAa rfl (zAa rfl (zAa rfl zAm))))⟩
            · have hb39n := hb39; replace hb39n := Nrm.nrm hb39n
              iterate 3 (refine zn E hb39 ?_; clear E a; intro a E)
              iterate 10 (refine zu E ?_; clear E a; intro a E)
              refine zn E hb39 ?_; clear E a; intro a E
              refine zp E (zAi E rfl rfl hb39 rfl) ?_; clear E a; intro a E
              refine wpList_nil ?_
              refine zAu ?_
              exact ⟨_, by unfold okB; rw [dotI]; clear E S hz; simp_all <;> (rw [Bool.eq_iff_iff]; simp; omega), S, E.keep (zAa rfl (zAa rfl (zAa rfl (zAa rfl zAm))))⟩
          · clear E S a; intro a w J; obtain ⟨_, rfl, S, E⟩ := J
            refine zAf hK ?_; clear hK; clear K
            refine zBf E rfl (fun hb => ?_) (fun hb => ?_)
            · replace hb := Nrm.nrm hb
              refine wp_seq_k ?_; intro K hK
              refine zAb ?_
              refine zp E (zAd E rfl rfl) ?_; clear E a; intro a E
              refine wpList_nil ?_
              refine zAf hK ?_; clear hK; clear K
              refine wp_ret ?_
              refine zCm ?_
              refine zAv ?_; clear hK; clear K
              refine zAv ?_
              refine zCm ?_
              refine zAv ?_; clear hK; clear K
              refine ret1 E rfl rfl ?_
              exact ⟨_, rfl, by rw [partB_no]; intro h; have := (okB_at hil).2 (h.2.2 i hil); rw [← hc] at this; simp [this] at hb, S.tr⟩
            · replace hb := Nrm.nrm hb
              refine wp_skip ?_
              refine zBi ?_
              refine zAf hK ?_; clear hK; clear K
              refine zAb ?_
              refine zp E (zAe E rfl rfl) ?_; clear E a; intro a E
              refine zp E (zBu E rfl rfl rfl (by first | exact zCl (y := 1) (by omega) | exact w_in (by omega) | exact zBt (by omega) | exact rfl)) ?_; clear E a; intro a E
              refine zp E (zAd E rfl rfl) ?_; clear E a; intro a E
              refine wpList_nil ?_
              refine zBq ?_
              exact ⟨_, by omega, i + 1, rfl, by omega, ok_more hok hil ((okB_at hil).1 (by rw [← hc]; simpa using hb)), S, E.keep (zAa rfl (zAa rfl (zAa rfl zAm)))⟩
      · replace hb := Nrm.nrm hb
        refine wp_exit ?_
        refine zBc ?_; clear hK; clear K
        refine zBc ?_
        refine zCj ?_
        refine zAf hK ?_; clear hK; clear K
        refine wp_seq_k ?_; intro K hK
        refine zAb ?_
        refine zp E (zAd E rfl rfl) ?_; clear E a; intro a E
        refine wpList_nil ?_
        refine zAf hK ?_; clear hK; clear K
        refine wp_ret ?_
        refine ret1 E rfl rfl ?_
        exact ⟨_, rfl, by rw [(part_end (l := l) fun k hk => hok k hk (by omega)).2 (by omega)], S.tr⟩
theorem zLi (l : List UInt8) (hl : l.length ≤ 140737488355328) (As : List zAy) (w0 : World) (H : Hp w0 As) :
    Ret Tryz.prog 34 #[str l] w0 fun u w' => u = .bool (zFv l) ∧ Trs w0 w' As As := by
  have S := St.begin H
  refine zCx 5 Tryz.func34 rfl rfl (by decide) ?_; intro a E
  refine wp_seq_k ?_; intro K hK
  refine zAb ?_
  refine zp E (zAd E rfl rfl) ?_; clear E a; intro a E
  refine wpList_nil ?_
  refine zAf hK ?_; clear hK; clear K
  refine wp_seq_k ?_; intro K hK
  refine zAb ?_
  refine zp E (zAe E rfl rfl) ?_; clear E a; intro a E
  refine zAp E rfl rfl (by decide) rfl Tryz.func78 rfl (by kernel_rfl) rfl (zLh l hl _ _ S.hp) ?_
  rintro v4 w ⟨rfl, hT⟩; clear E a; intro a E
  have S := S.all hT
  refine zp E (zAd E rfl rfl) ?_; clear E a; intro a E
  refine wpList_nil ?_
  refine zAf hK ?_; clear hK; clear K
  refine wp_ret ?_
  refine ret1 E rfl rfl ?_
  exact ⟨_, rfl, rfl, S.tr⟩
theorem uName_ret (l : List UInt8) (hl : l.length ≤ 140737488355328) (As : List zAy) (w0 : World) (H : Hp w0 As) :
    Ret Tryz.prog 79 #[str l] w0 fun u w' => u = .bool (nameB l) ∧ Trs w0 w' As As := by
  have S := St.begin H
  have hno : ∀ {z : Bool}, (z = true ↔ nameP l) → z = nameB l := fun h => by rw [Bool.eq_iff_iff, zHm]; exact h
  refine zCx 39 Tryz.func79 rfl rfl (by decide) ?_; intro a E
  refine wp_seq_k ?_; intro K hK
  refine zAb ?_
  refine zp E (zAd E rfl rfl) ?_; clear E a; intro a E
  refine wpList_nil ?_
  refine zAf hK ?_; clear hK; clear K
  iterate 2 (refine wp_seq_k ?_; intro K hK)
  refine zAb ?_
  refine zp E (zAe E rfl rfl) ?_; clear E a; intro a E
  refine zp E (by first | exact zBx E rfl rfl rfl | exact zAx E rfl rfl rfl | exact zAq E rfl rfl rfl) ?_; clear E a; intro a E
  refine zp E (zDm E rfl rfl rfl) ?_; clear E a; intro a E
  refine wpList_nil ?_
  refine zAf hK ?_; clear hK; clear K
  refine zBf E rfl (fun hb => ?_) (fun hb => ?_)
  · replace hb := Nrm.nrm hb
    refine wp_seq_k ?_; intro K hK
    refine zAb ?_
    refine zp E (zAd E rfl rfl) ?_; clear E a; intro a E
    refine wpList_nil ?_
    refine zAf hK ?_; clear hK; clear K
    refine wp_ret ?_
    refine zAv ?_; clear hK; clear K
    refine ret1 E rfl rfl ?_
    exact ⟨_, rfl, by rw [← hno (z := false) ⟨fun q => Bool.noConfusion q, fun q => by have := q.1; omega⟩], S.tr⟩
  · replace hb := Nrm.nrm hb
    refine wp_skip ?_
    refine zAf hK ?_; clear hK; clear K
    refine wp_seq_k ?_; intro K hK
    refine zAb ?_
    refine zp E (zAd E rfl rfl) ?_; clear E a; intro a E
    refine wpList_nil ?_
    refine zAf hK ?_; clear hK; clear K
    refine wp_seq_k ?_; intro K hK
    refine zAb ?_
    refine zp E (zAd E rfl rfl) ?_; clear E a; intro a E
    refine wpList_nil ?_
    refine zAf hK ?_; clear hK; clear K
    iterate 2 (refine wp_seq_k ?_; intro K hK)
    refine zAb ?_
    refine zp E (zAd E rfl rfl) ?_; clear E a; intro a E
    refine wpList_nil ?_
    refine zAf hK ?_; clear hK; clear K
    refine wp_block ?_
    refine wp_loop_ghost (fun (m : Nat) (a : Act) (w' : World) => ∃ (i f : Nat) (cl : List (List UInt8)), m = l.length - i ∧ i ≤ l.length ∧ f ≤ i ∧ zDn l = cl ++ zDn (l.drop f) ∧ (∀ p ∈ cl, zFv p = true) ∧ ((l.drop f).take (i - f)).count 47 = 0 ∧ cl.length ≤ f ∧ St w0 As w' As ∧ Fr a 39 [(0, str l), (2, .bool false), (3, .int .i64 (cl.length + 1 : Nat)), (4, .int .i64 f), (5, .int .i64 i)]) (l.length) ?_ ?_
    · exact ⟨0, 0, [], by omega, by omega, by omega, rfl, by simp, by simp, by simp, S, E.keep (zAa rfl (zAa rfl (zAa rfl (zAa rfl (zAa rfl zAm)))))⟩
    clear E; clear a; (try clear S); rintro m a w ⟨i, f, cl, rfl, hi, hfi, hp, hcl, hc0, hclf, S, E⟩
    iterate 2 (refine wp_seq_k ?_; intro K hK)
    refine zAb ?_
    iterate 2 (refine zp E (zAe E rfl rfl) ?_; clear E a; intro a E)
    refine zp E (by first | exact zBx E rfl rfl rfl | exact zAx E rfl rfl rfl | exact zAq E rfl rfl rfl) ?_; clear E a; intro a E
    refine zp E (zCn E rfl rfl rfl) ?_; clear E a; intro a E
    refine wpList_nil ?_
    refine zAf hK ?_; clear hK; clear K
    refine zBf E rfl (fun hb => ?_) (fun hb => ?_)
    · replace hb := Nrm.nrm hb
      refine wp_skip ?_
      refine zAf hK ?_; clear hK; clear K
      refine wp_seq_k ?_; intro K hK
      refine wp_block ?_
      refine wp_seq_k ?_; intro K hK
      have hil : i < l.length := by omega
      have hgi : (l.drop f)[i - f]'(by rw [List.length_drop]; omega) = l[i] := by rw [List.getElem_drop]; congr 1; omega
      refine zAb ?_
      iterate 2 (refine zp E (zAe E rfl rfl) ?_; clear E a; intro a E)
      refine zp E (by first | exact zEo E rfl rfl rfl rfl rfl (by assumption) | exact zDi E rfl rfl rfl rfl rfl (by omega)) ?_; clear E a; intro a E
      refine zp E (by first | exact zCe E rfl rfl rfl | exact zAt E rfl rfl rfl rfl | exact zBd E rfl rfl rfl rfl | exact zAw E rfl rfl rfl) ?_; clear E a; intro a E
      refine wpList_nil ?_
      refine zAf hK ?_; clear hK; clear K
      refine zBf E rfl (fun hb => ?_) (fun hb => ?_)
      · replace hb := Nrm.nrm hb
        refine wp_seq_k ?_; intro K hK
        have hc47 : l[i] = 47 := UInt8.toNat_inj.1 (by show l[i].toNat = 47; omega)
        have hcut := zJa (l := l.drop f) (m := i - f) (by rw [List.length_drop]; omega) (by rw [hgi]; exact hc47) hc0
        rw [List.drop_drop, show f + (i - f + 1) = i + 1 by omega] at hcut
        refine zAb ?_
        iterate 3 (refine zp E (zAe E rfl rfl) ?_; clear E a; intro a E)
        refine zp E (rn_str_lh (lo := f) (hi := i) E rfl rfl rfl rfl rfl rfl rfl (by omega) (by omega)) ?_; clear E a; intro a E
        refine zAp E rfl rfl (by decide) rfl Tryz.func78 rfl (by kernel_rfl) rfl (zLh ((l.drop f).take (i - f)) (by rw [List.length_take, List.length_drop]; omega) _ _ S.hp) ?_
        rintro v24 w ⟨rfl, hT⟩; clear E a; intro a E
        have S := S.all hT
        refine zp E (zAd E rfl rfl) ?_; clear E a; intro a E
        refine wpList_nil ?_
        refine zAf hK ?_; clear hK; clear K
        iterate 2 (refine wp_seq_k ?_; intro K hK)
        refine zAb ?_
        refine zp E (zAe E rfl rfl) ?_; clear E a; intro a E
        refine zp E (zDq E rfl rfl) ?_; clear E a; intro a E
        refine wpList_nil ?_
        refine zAf hK ?_; clear hK; clear K
        refine zBf E rfl (fun hb => ?_) (fun hb => ?_)
        · replace hb := Nrm.nrm hb
          have hb10 := hb
          refine wp_seq_k ?_; intro K hK
          refine zAb ?_
          refine zp E (zAd E rfl rfl) ?_; clear E a; intro a E
          refine wpList_nil ?_
          refine zAf hK ?_; clear hK; clear K
          refine wp_ret ?_
          refine zAv ?_; clear hK; clear K
          refine zCm ?_
          refine zAv ?_; clear hK; clear K
          refine zAv ?_
          refine zCm ?_
          refine zAv ?_; clear hK; clear K
          refine ret1 E rfl rfl ?_
          exact ⟨_, rfl, by rw [← hno (z := false) ⟨fun q => Bool.noConfusion q, fun q => by have := q.2.2 ((l.drop f).take (i - f)) (by rw [hp, hcut]; simp); simp [this] at hb10⟩], S.tr⟩
        · replace hb := Nrm.nrm hb
          have hb10 := hb
          refine wp_skip ?_
          refine zAf hK ?_; clear hK; clear K
          refine wp_seq_k ?_; intro K hK
          refine zAb ?_
          refine zp E (zAe E rfl rfl) ?_; clear E a; intro a E
          refine zp E (zBu E rfl rfl rfl (by first | exact zCl (y := 1) (by omega) | exact w_in (by omega) | exact zBt (by omega) | exact rfl)) ?_; clear E a; intro a E
          refine zp E (zAd E rfl rfl) ?_; clear E a; intro a E
          refine wpList_nil ?_
          refine zAf hK ?_; clear hK; clear K
          refine zAb ?_
          refine zp E (zAe E rfl rfl) ?_; clear E a; intro a E
          refine zp E (zBu E rfl rfl rfl (by first | exact zCl (y := 1) (by omega) | exact w_in (by omega) | exact zBt (by omega) | exact rfl)) ?_; clear E a; intro a E
          refine zp E (zAd E rfl rfl) ?_; clear E a; intro a E
          refine wpList_nil ?_
          refine zBi ?_
          refine zAf hK ?_; clear hK; clear K
          refine zAb ?_
          refine zp E (zAe E rfl rfl) ?_; clear E a; intro a E
          refine zp E (zBu E rfl rfl rfl (by first | exact zCl (y := 1) (by omega) | exact w_in (by omega) | exact zBt (by omega) | exact rfl)) ?_; clear E a; intro a E
          refine zp E (zAd E rfl rfl) ?_; clear E a; intro a E
          refine wpList_nil ?_
          refine zBq ?_
          first
            | exact ⟨_, by omega, i + 1, i + 1, cl ++ [(l.drop f).take (i - f)], rfl, by omega, by omega, by rw [hp, hcut]; simp, (fun p hp => by rcases List.mem_append.1 hp with q | q; exact hcl p q; rw [List.mem_singleton.1 q]; simpa using hb10), by simp, by simp; omega, S, by rw [List.length_append]; exact E.keep (zAa rfl (zAa rfl (zAa rfl (zAa rfl (zAa rfl zAm)))))⟩
            | exact ⟨_, by omega, i + 1, f, cl, rfl, by omega, by omega, hp, hcl, by
                rw [show i + 1 - f = i - f + 1 by omega, ← List.take_append_getElem (by rw [List.length_drop]; omega), List.count_append, hc0, hgi, List.count_singleton]
                have : l[i] ≠ 47 := fun q => hb (by rw [q]; rfl)
                simp [this], hclf, S, E.keep (zAa rfl (zAa rfl (zAa rfl (zAa rfl (zAa rfl zAm)))))⟩
      · replace hb := Nrm.nrm hb
        refine wp_skip ?_
        refine zBi ?_
        refine zAf hK ?_; clear hK; clear K
        refine zAb ?_
        refine zp E (zAe E rfl rfl) ?_; clear E a; intro a E
        refine zp E (zBu E rfl rfl rfl (by first | exact zCl (y := 1) (by omega) | exact w_in (by omega) | exact zBt (by omega) | exact rfl)) ?_; clear E a; intro a E
        refine zp E (zAd E rfl rfl) ?_; clear E a; intro a E
        refine wpList_nil ?_
        refine zBq ?_
        first
          | exact ⟨_, by omega, i + 1, i + 1, cl ++ [(l.drop f).take (i - f)], rfl, by omega, by omega, by rw [hp, hcut]; simp, (fun p hp => by rcases List.mem_append.1 hp with q | q; exact hcl p q; rw [List.mem_singleton.1 q]; simpa using hb10), by simp, by simp; omega, S, by rw [List.length_append]; exact E.keep (zAa rfl (zAa rfl (zAa rfl (zAa rfl (zAa rfl zAm)))))⟩
          | exact ⟨_, by omega, i + 1, f, cl, rfl, by omega, by omega, hp, hcl, by
              rw [show i + 1 - f = i - f + 1 by omega, ← List.take_append_getElem (by rw [List.length_drop]; omega), List.count_append, hc0, hgi, List.count_singleton]
              have : l[i] ≠ 47 := fun q => hb (by rw [q]; rfl)
              simp [this], hclf, S, E.keep (zAa rfl (zAa rfl (zAa rfl (zAa rfl (zAa rfl zAm)))))⟩
    · replace hb := Nrm.nrm hb
      refine wp_exit ?_
      refine zBc ?_; clear hK; clear K
      refine zBc ?_
      refine zCj ?_
      refine zAf hK ?_; clear hK; clear K
      refine wp_seq_k ?_; intro K hK
      obtain rfl : i = l.length := by omega
      have hlast : zDn (l.drop f) = [l.drop f] := zKl (by rw [List.take_of_length_le (by rw [List.length_drop]; omega)] at hc0; exact hc0)
      rw [hlast] at hp
      have hpl : (zDn l).length = cl.length + 1 := by rw [hp]; simp
      refine zAb ?_
      refine zp E (zAe E rfl rfl) ?_; clear E a; intro a E
      refine zp E (zEi E rfl rfl rfl) ?_; clear E a; intro a E
      refine zp E (zAe E rfl rfl) ?_; clear E a; intro a E
      refine zAs E (t := 33) rfl (fun hb33 => ?_) (fun hb33 => ?_)
      · have hb33n := hb33; replace hb33n := Nrm.nrm hb33n
        iterate 2 (refine zy E hb33 (zAe E rfl rfl) ?_; clear E a; intro a E)
        refine zy E hb33 (rn_str_l E rfl rfl rfl rfl rfl (by omega)) ?_; clear E a; intro a E
        refine zCb E rfl rfl rfl rfl hb33 ?_; refine zCv E rfl (by decide) rfl Tryz.func78 rfl (by kernel_rfl) rfl (zLh (l.drop f) (by rw [List.length_drop]; omega) _ _ S.hp) ?_
        rintro v37 w ⟨rfl, hT⟩; clear E a; intro a E
        have S := S.all hT
        refine zp E (zAl E rfl rfl hb33 rfl) ?_; clear E a; intro a E
        refine zp E (zAd E rfl rfl) ?_; clear E a; intro a E
        refine wpList_nil ?_
        refine zAf hK ?_; clear hK; clear K
        refine wp_ret ?_
        refine ret1 E rfl rfl ?_
        refine ⟨_, rfl, ?_, S.tr⟩
        congr 1
        refine hno ⟨fun q => ?_, fun q => ?_⟩
        · first
            | exact Bool.noConfusion q
            | exact ⟨by omega, by omega, fun p hp' => by rw [hp] at hp'; rcases List.mem_append.1 hp' with q' | q'; exact hcl p q'; rw [List.mem_singleton.1 q']; exact q⟩
        · have h2 := q.2.1
          first
            | exact q.2.2 _ (by rw [hp]; simp)
            | (exfalso; omega)
      · have hb33n := hb33; replace hb33n := Nrm.nrm hb33n
        iterate 4 (refine zn E hb33 ?_; clear E a; intro a E)
        refine zp E (zAi E rfl rfl hb33 rfl) ?_; clear E a; intro a E
        refine zp E (zAd E rfl rfl) ?_; clear E a; intro a E
        refine wpList_nil ?_
        refine zAf hK ?_; clear hK; clear K
        refine wp_ret ?_
        refine ret1 E rfl rfl ?_
        refine ⟨_, rfl, ?_, S.tr⟩
        congr 1
        refine hno ⟨fun q => ?_, fun q => ?_⟩
        · first
            | exact Bool.noConfusion q
            | exact ⟨by omega, by omega, fun p hp' => by rw [hp] at hp'; rcases List.mem_append.1 hp' with q' | q'; exact hcl p q'; rw [List.mem_singleton.1 q']; exact q⟩
        · have h2 := q.2.1
          first
            | exact q.2.2 _ (by rw [hp]; simp)
            | (exfalso; omega)
theorem uvalue20_ret (l : List UInt8) (hl : l.length ≤ 140737488355328) (As : List zAy) (w0 : World) (H : Hp w0 As) :
    Ret Tryz.prog 80 #[str l] w0 fun u w' => u = .bool (decide (1 ≤ l.length ∧ l.length ≤ 64) && valB l) ∧ Trs w0 w' As As := by
  have S := St.begin H
  refine zCx 28 Tryz.func80 rfl rfl (by decide) ?_; intro a E
  refine wp_seq_k ?_; intro K hK
  refine zAb ?_
  refine zp E (zAd E rfl rfl) ?_; clear E a; intro a E
  refine wpList_nil ?_
  refine zAf hK ?_; clear hK; clear K
  iterate 2 (refine wp_seq_k ?_; intro K hK)
  refine zAb ?_
  refine zp E (zAd E rfl rfl) ?_; clear E a; intro a E
  refine wpList_nil ?_
  refine zAf hK ?_; clear hK; clear K
  refine wp_block ?_
  refine wp_loop_ghost (fun (m : Nat) (a : Act) (w' : World) => ∃ i : Nat, m = l.length - i ∧ i ≤ l.length ∧ (∀ k, ∀ hk : k < l.length, k < i → 32 ≤ l[k].toNat ∧ l[k].toNat ≤ 126) ∧ St w0 As w' As ∧ Fr a 28 [(0, str l), (2, .bool false), (3, .int .i64 i)]) (l.length) ?_ ?_
  · exact ⟨0, by omega, by omega, by intro k _ h; omega, S, E.keep (zAa rfl (zAa rfl (zAa rfl zAm)))⟩
  clear E; clear a; (try clear S); rintro m a w ⟨i, rfl, hi, hok, S, E⟩
  iterate 2 (refine wp_seq_k ?_; intro K hK)
  refine zAb ?_
  iterate 2 (refine zp E (zAe E rfl rfl) ?_; clear E a; intro a E)
  refine zp E (by first | exact zBx E rfl rfl rfl | exact zAx E rfl rfl rfl | exact zAq E rfl rfl rfl) ?_; clear E a; intro a E
  refine zp E (zCn E rfl rfl rfl) ?_; clear E a; intro a E
  refine wpList_nil ?_
  refine zAf hK ?_; clear hK; clear K
  refine zBf E rfl (fun hb => ?_) (fun hb => ?_)
  · replace hb := Nrm.nrm hb
    refine wp_skip ?_
    refine zAf hK ?_; clear hK; clear K
    refine wp_seq_k ?_; intro K hK
    refine wp_block ?_
    refine wp_seq_k ?_; intro K hK
    have hil : i < l.length := by omega
    refine zAb ?_
    iterate 2 (refine zp E (zAe E rfl rfl) ?_; clear E a; intro a E)
    refine zp E (by first | exact zEo E rfl rfl rfl rfl rfl (by assumption) | exact zDi E rfl rfl rfl rfl rfl (by omega)) ?_; clear E a; intro a E
    refine zp E (zCn E rfl rfl rfl) ?_; clear E a; intro a E
    refine zp E (zAe E rfl rfl) ?_; clear E a; intro a E
    refine zAs E (t := 14) rfl (fun hb14 => ?_) (fun hb14 => ?_)
    · have hb14n := hb14; replace hb14n := Nrm.nrm hb14n
      iterate 4 (refine zn E hb14 ?_; clear E a; intro a E)
      refine zp E (zAl E rfl rfl hb14 rfl) ?_; clear E a; intro a E
      refine wpList_nil ?_
      refine zAf hK ?_; clear hK; clear K
      refine zCi E rfl rfl ?_
      refine wp_seq_k ?_; intro K hK
      refine zAb ?_
      refine zp E (zAd E rfl rfl) ?_; clear E a; intro a E
      refine wpList_nil ?_
      refine zAf hK ?_; clear hK; clear K
      refine wp_ret ?_
      refine zCm ?_
      refine zAv ?_; clear hK; clear K
      refine zAv ?_
      refine zCm ?_
      refine zAv ?_; clear hK; clear K
      refine ret1 E rfl rfl ?_
      exact ⟨_, rfl, by rw [valB_no (fun q => by have := q i hil; first | omega | (simp at hb; omega))]; simp, S.tr⟩
    · have hb14n := hb14; replace hb14n := Nrm.nrm hb14n
      iterate 2 (refine zy E hb14 (zAe E rfl rfl) ?_; clear E a; intro a E)
      refine zy E hb14 (by first | exact zEo E rfl rfl rfl rfl rfl (by assumption) | exact zDi E rfl rfl rfl rfl rfl (by omega)) ?_; clear E a; intro a E
      refine zy E hb14 (zDm E rfl rfl rfl) ?_; clear E a; intro a E
      refine zp E (zAi E rfl rfl hb14 rfl) ?_; clear E a; intro a E
      refine wpList_nil ?_
      refine zAf hK ?_; clear hK; clear K
      refine zBf E rfl (fun hb => ?_) (fun hb => ?_)
      · replace hb := Nrm.nrm hb
        refine wp_seq_k ?_; intro K hK
        refine zAb ?_
        refine zp E (zAd E rfl rfl) ?_; clear E a; intro a E
        refine wpList_nil ?_
        refine zAf hK ?_; clear hK; clear K
        refine wp_ret ?_
        refine zCm ?_
        refine zAv ?_; clear hK; clear K
        refine zAv ?_
        refine zCm ?_
        refine zAv ?_; clear hK; clear K
        refine ret1 E rfl rfl ?_
        exact ⟨_, rfl, by rw [valB_no (fun q => by have := q i hil; first | omega | (simp at hb; omega))]; simp, S.tr⟩
      · replace hb := Nrm.nrm hb
        refine wp_skip ?_
        refine zBi ?_
        refine zAf hK ?_; clear hK; clear K
        refine zAb ?_
        refine zp E (zAe E rfl rfl) ?_; clear E a; intro a E
        refine zp E (zBu E rfl rfl rfl (by first | exact zCl (y := 1) (by omega) | exact w_in (by omega) | exact zBt (by omega) | exact rfl)) ?_; clear E a; intro a E
        refine zp E (zAd E rfl rfl) ?_; clear E a; intro a E
        refine wpList_nil ?_
        refine zBq ?_
        exact ⟨_, by omega, i + 1, rfl, by omega, valP_more hok hil (by first | omega | (simp at hb; omega)), S, E.keep (zAa rfl (zAa rfl (zAa rfl zAm)))⟩
  · replace hb := Nrm.nrm hb
    refine wp_exit ?_
    refine zBc ?_; clear hK; clear K
    refine zBc ?_
    refine zCj ?_
    refine zAf hK ?_; clear hK; clear K
    refine wp_seq_k ?_; intro K hK
    refine zAb ?_
    refine zp E (zAe E rfl rfl) ?_; clear E a; intro a E
    refine zp E (by first | exact zBx E rfl rfl rfl | exact zAx E rfl rfl rfl | exact zAq E rfl rfl rfl) ?_; clear E a; intro a E
    refine zp E (zEd E rfl rfl rfl) ?_; clear E a; intro a E
    refine zp E (zAe E rfl rfl) ?_; clear E a; intro a E
    refine zAs E (t := 23) rfl (fun hb23 => ?_) (fun hb23 => ?_)
    · have hb23n := hb23; replace hb23n := Nrm.nrm hb23n
      refine zy E hb23 (zAe E rfl rfl) ?_; clear E a; intro a E
      refine zy E hb23 (by first | exact zBx E rfl rfl rfl | exact zAx E rfl rfl rfl | exact zAq E rfl rfl rfl) ?_; clear E a; intro a E
      refine zy E hb23 (zEi E rfl rfl rfl) ?_; clear E a; intro a E
      refine zp E (zAl E rfl rfl hb23 rfl) ?_; clear E a; intro a E
      refine zp E (zAd E rfl rfl) ?_; clear E a; intro a E
      refine wpList_nil ?_
      refine zAf hK ?_; clear hK; clear K
      refine wp_ret ?_
      refine ret1 E rfl rfl ?_
      exact ⟨_, rfl, by rw [valB_yes (fun k hk => hok k hk (by omega))]; congr 1; rw [Bool.eq_iff_iff]; simp; omega, S.tr⟩
    · have hb23n := hb23; replace hb23n := Nrm.nrm hb23n
      iterate 3 (refine zn E hb23 ?_; clear E a; intro a E)
      refine zp E (zAi E rfl rfl hb23 rfl) ?_; clear E a; intro a E
      refine zp E (zAd E rfl rfl) ?_; clear E a; intro a E
      refine wpList_nil ?_
      refine zAf hK ?_; clear hK; clear K
      refine wp_ret ?_
      refine ret1 E rfl rfl ?_
      exact ⟨_, rfl, by rw [valB_yes (fun k hk => hok k hk (by omega))]; congr 1; rw [Bool.eq_iff_iff]; simp; omega, S.tr⟩
theorem uris_ret (C : zAy) (v : Value) (l : List Int) (hR : Rd C 1 v l.length (ints l)) (hl : l.length ≤ 140737488355328) (x y : Int) (As : List zAy) (hC : C ∈ As) (w0 : World) (H : Hp w0 As) :
    Ret Tryz.prog 36 #[v, .int .i64 x, .int .i64 y] w0 fun u w' => u = .bool (risB l x y) ∧ Trs w0 w' As As := by
  have S := St.begin H
  obtain ⟨ad, c, rfl⟩ := hR.slice
  refine zGk 47 Tryz.func36 rfl rfl (by decide) ?_; intro a E
  refine wp_seq_k ?_; intro K hK
  refine zAb ?_
  refine zp E (zAd E rfl rfl) ?_; clear E a; intro a E
  refine wpList_nil ?_
  refine zAf hK ?_; clear hK; clear K
  iterate 2 (refine wp_seq_k ?_; intro K hK)
  refine zAb ?_
  refine zp E (zAd E rfl rfl) ?_; clear E a; intro a E
  refine wpList_nil ?_
  refine zAf hK ?_; clear hK; clear K
  refine wp_block ?_
  refine wp_loop_ghost (fun (m : Nat) (a : Act) (w' : World) => ∃ i : Nat, m = l.length - i ∧ i ≤ l.length ∧ (∀ k, ∀ hk : k < l.length, k < i → risAt l x y k hk) ∧ St w0 As w' As ∧ Fr a 47 [(0, .slice ad l.length c), (1, .int .i64 x), (2, .int .i64 y), (6, .bool false), (7, .int .i64 i)]) (l.length) ?_ ?_
  · exact ⟨0, by omega, by omega, by intro k _ h; omega, S, E.keep (zAa rfl (zAa rfl (zAa rfl (zAa rfl (zAa rfl zAm)))))⟩
  clear E; clear a; (try clear S); rintro m a w ⟨i, rfl, hi, hok, S, E⟩
  iterate 2 (refine wp_seq_k ?_; intro K hK)
  refine zAb ?_
  iterate 2 (refine zp E (zAe E rfl rfl) ?_; clear E a; intro a E)
  refine zp E (by first | exact zBx E rfl rfl rfl | exact zAx E rfl rfl rfl | exact zAq E rfl rfl rfl) ?_; clear E a; intro a E
  refine zp E (zCn E rfl rfl rfl) ?_; clear E a; intro a E
  refine wpList_nil ?_
  refine zAf hK ?_; clear hK; clear K
  refine zBf E rfl (fun hb => ?_) (fun hb => ?_)
  · replace hb := Nrm.nrm hb
    refine wp_skip ?_
    refine zAf hK ?_; clear hK; clear K
    refine wp_seq_k ?_; intro K hK
    refine wp_block ?_
    refine wp_seq_k ?_; intro K hK
    have hil : i < l.length := by omega
    obtain ⟨b, off, rfl⟩ := hR.addr (by omega)
    refine zDw (fun (a : Act) (w' : World) => ∃ z, (z = true ↔ ¬ risAt l x y i hil) ∧ St w0 As w' As ∧ Fr a 47 [(0, .slice (some ⟨b, off, none⟩) l.length c), (1, .int .i64 x), (2, .int .i64 y), (6, .bool false), (7, .int .i64 i), (43, .bool z)]) ?_ ?_
    · skip
      refine zBz S (.ofL [(0, 0), (1, 0), (2, 0), (3, 0), (4, 0), (5, 0), (6, 0), (7, 0), (8, 0), (9, 0), (10, 0), (11, 0), (12, 0), (13, 0), (14, 0), (15, 0), (16, 0), (17, 0), (18, 0), (19, 0), (20, 0), (21, 0), (22, 0), (23, 0), (24, 0), (25, 0), (26, 0), (27, 0), (28, 0), (29, 0)]) (by kernel_rfl) (by kernel_rfl) ?_
      clear S; intro w S
      iterate 2 (refine zm E rfl (fun w h => zAe E rfl rfl) ?_; clear E a; intro a E)
      refine zm E rfl (fun w h => by first | exact zBl E rfl rfl rfl rfl rfl rfl (by omega) | exact zBv E rfl rfl rfl rfl rfl rfl (by omega) | exact zBj E rfl rfl rfl rfl rfl rfl (by omega)) ?_; clear E a; intro a E
      refine zm E rfl (fun w h => zAj E rfl rfl rfl (hR.cells (h.at hC) rfl i _ (zGe hil))) ?_; clear E a; intro a E
      refine zm E rfl (fun w h => zAe E rfl rfl) ?_; clear E a; intro a E
      refine zm E rfl (fun w h => zCn E rfl rfl rfl) ?_; clear E a; intro a E
      refine zm E rfl (fun w h => zAe E rfl rfl) ?_; clear E a; intro a E
      refine zAs E (t := 20) rfl (fun hb20 => ?_) (fun hb20 => ?_)
      · have hb20n := hb20; replace hb20n := Nrm.nrm hb20n
        iterate 6 (refine zCd E rfl rfl rfl rfl rfl hb20 rfl (by decide) ?_; clear E a; intro a E)
        refine zm E rfl (fun w h => zAl E rfl rfl hb20 rfl) ?_; clear E a; intro a E
        refine zm E rfl (fun w h => zAe E rfl rfl) ?_; clear E a; intro a E
        iterate 3 (refine zCd E rfl rfl rfl rfl rfl rfl rfl (by decide) ?_; clear E a; intro a E)
        iterate 10 (refine zDv E rfl rfl rfl rfl rfl rfl (by decide) ?_; clear E a; intro a E)
        refine zCd E rfl rfl rfl rfl rfl rfl rfl (by decide) ?_; clear E a; intro a E
        refine zm E rfl (fun w h => zAl E rfl rfl rfl rfl) ?_; clear E a; intro a E
        refine zBw ?_
        refine zAu ?_
        refine ⟨_, ⟨fun q r => ?_, fun q => ?_⟩, S, E.keep (zAa rfl (zAa rfl (zAa rfl (zAa rfl (zAa rfl (zAa rfl zAm))))))⟩
        · have r1 := r.1
          have r2 := r.2.1
          have r3 := r.2.2
          first | omega | (have := r3 (by omega); simp at q <;> omega) | (simp at q <;> omega)
        · first | rfl | (apply Classical.byContradiction; intro q2; exact q ⟨by omega, by omega, fun h0 => by first | omega | (simp at q2; omega)⟩)
      · have hb20n := hb20; replace hb20n := Nrm.nrm hb20n
        iterate 2 (refine zBa E rfl rfl rfl rfl rfl hb20 rfl (by decide) (fun w h => zAe E rfl rfl) ?_; clear E a; intro a E)
        refine zBa E rfl rfl rfl rfl rfl hb20 rfl (by decide) (fun w h => by first | exact zBl E rfl rfl rfl rfl rfl rfl (by omega) | exact zBv E rfl rfl rfl rfl rfl rfl (by omega) | exact zBj E rfl rfl rfl rfl rfl rfl (by omega)) ?_; clear E a; intro a E
        refine zBa E rfl rfl rfl rfl rfl hb20 rfl (by decide) (fun w h => zAj E rfl rfl rfl (hR.cells (h.at hC) rfl i _ (zGe hil))) ?_; clear E a; intro a E
        refine zBa E rfl rfl rfl rfl rfl hb20 rfl (by decide) (fun w h => zAe E rfl rfl) ?_; clear E a; intro a E
        refine zBa E rfl rfl rfl rfl rfl hb20 rfl (by decide) (fun w h => zDm E rfl rfl rfl) ?_; clear E a; intro a E
        refine zm E rfl (fun w h => zAi E rfl rfl hb20 rfl) ?_; clear E a; intro a E
        refine zm E rfl (fun w h => zAe E rfl rfl) ?_; clear E a; intro a E
        refine zAs E (t := 28) rfl (fun hb28 => ?_) (fun hb28 => ?_)
        · have hb28n := hb28; replace hb28n := Nrm.nrm hb28n
          iterate 3 (refine zCd E rfl rfl rfl rfl rfl hb28 rfl (by decide) ?_; clear E a; intro a E)
          iterate 10 (refine zDv E rfl rfl rfl rfl rfl rfl (by decide) ?_; clear E a; intro a E)
          refine zCd E rfl rfl rfl rfl rfl hb28 rfl (by decide) ?_; clear E a; intro a E
          refine zm E rfl (fun w h => zAl E rfl rfl hb28 rfl) ?_; clear E a; intro a E
          refine zBw ?_
          refine zAu ?_
          refine ⟨_, ⟨fun q r => ?_, fun q => ?_⟩, S, E.keep (zAa rfl (zAa rfl (zAa rfl (zAa rfl (zAa rfl (zAa rfl zAm))))))⟩
          · have r1 := r.1
            have r2 := r.2.1
            have r3 := r.2.2
            first | omega | (have := r3 (by omega); simp at q <;> omega) | (simp at q <;> omega)
          · first | rfl | (apply Classical.byContradiction; intro q2; exact q ⟨by omega, by omega, fun h0 => by first | omega | (simp at q2; omega)⟩)
        · have hb28n := hb28; replace hb28n := Nrm.nrm hb28n
          refine zBa E rfl rfl rfl rfl rfl hb28 rfl (by decide) (fun w h => zAe E rfl rfl) ?_; clear E a; intro a E
          refine zBa E rfl rfl rfl rfl rfl hb28 rfl (by decide) (fun w h => zDm E rfl rfl rfl) ?_; clear E a; intro a E
          refine zBa E rfl rfl rfl rfl rfl hb28 rfl (by decide) (fun w h => zAe E rfl rfl) ?_; clear E a; intro a E
          refine zAs E (t := 31) rfl (fun hb31 => ?_) (fun hb31 => ?_)
          · have hb31n := hb31; replace hb31n := Nrm.nrm hb31n
            iterate 2 (refine zBa E rfl rfl rfl rfl rfl hb31 rfl (by decide) (fun w h => zAe E rfl rfl) ?_; clear E a; intro a E)
            refine zBa E rfl rfl rfl rfl rfl hb31 rfl (by decide) (fun w h => zDs E rfl rfl rfl (by first | exact zGa (y := 1) (by omega) (by omega) | exact w_in (by omega) | exact zBt (by omega) | exact rfl)) ?_; clear E a; intro a E
            refine zBa E rfl rfl rfl rfl rfl hb31 rfl (by decide) (fun w h => by first | exact zBl E rfl rfl rfl rfl rfl rfl (by omega) | exact zBv E rfl rfl rfl rfl rfl rfl (by omega) | exact zBj E rfl rfl rfl rfl rfl rfl (by omega)) ?_; clear E a; intro a E
            refine zBa E rfl rfl rfl rfl rfl hb31 rfl (by decide) (fun w h => zAj E rfl rfl rfl (hR.cells (h.at hC) rfl (i - 1) _ (zGe (l := l) (i := i - 1) (by omega)))) ?_; clear E a; intro a E
            iterate 2 (refine zBa E rfl rfl rfl rfl rfl hb31 rfl (by decide) (fun w h => zAe E rfl rfl) ?_; clear E a; intro a E)
            refine zBa E rfl rfl rfl rfl rfl hb31 rfl (by decide) (fun w h => by first | exact zBl E rfl rfl rfl rfl rfl rfl (by omega) | exact zBv E rfl rfl rfl rfl rfl rfl (by omega) | exact zBj E rfl rfl rfl rfl rfl rfl (by omega)) ?_; clear E a; intro a E
            refine zBa E rfl rfl rfl rfl rfl hb31 rfl (by decide) (fun w h => zAj E rfl rfl rfl (hR.cells (h.at hC) rfl i _ (zGe hil))) ?_; clear E a; intro a E
            refine zBa E rfl rfl rfl rfl rfl hb31 rfl (by decide) (fun w h => zEd E rfl rfl rfl) ?_; clear E a; intro a E
            refine zBa E rfl rfl rfl rfl rfl hb28 rfl (by decide) (fun w h => zAl E rfl rfl hb31 rfl) ?_; clear E a; intro a E
            refine zm E rfl (fun w h => zAi E rfl rfl hb28 rfl) ?_; clear E a; intro a E
            refine zBw ?_
            refine zAu ?_
            refine ⟨_, ⟨fun q r => ?_, fun q => ?_⟩, S, E.keep (zAa rfl (zAa rfl (zAa rfl (zAa rfl (zAa rfl (zAa rfl zAm))))))⟩
            · have r1 := r.1
              have r2 := r.2.1
              have r3 := r.2.2
              first | omega | (have := r3 (by omega); simp at q <;> omega) | (simp at q <;> omega)
            · first | rfl | (apply Classical.byContradiction; intro q2; exact q ⟨by omega, by omega, fun h0 => by first | omega | (simp at q2; omega)⟩)
          · have hb31n := hb31; replace hb31n := Nrm.nrm hb31n
            iterate 10 (refine zCd E rfl rfl rfl rfl rfl hb31 rfl (by decide) ?_; clear E a; intro a E)
            refine zBa E rfl rfl rfl rfl rfl hb28 rfl (by decide) (fun w h => zAi E rfl rfl hb31 rfl) ?_; clear E a; intro a E
            refine zm E rfl (fun w h => zAi E rfl rfl hb28 rfl) ?_; clear E a; intro a E
            refine zBw ?_
            refine zAu ?_
            refine ⟨_, ⟨fun q r => ?_, fun q => ?_⟩, S, E.keep (zAa rfl (zAa rfl (zAa rfl (zAa rfl (zAa rfl (zAa rfl zAm))))))⟩
            · have r1 := r.1
              have r2 := r.2.1
              have r3 := r.2.2
              first | omega | (have := r3 (by omega); simp at q <;> omega) | (simp at q <;> omega)
            · first | rfl | (apply Classical.byContradiction; intro q2; exact q ⟨by omega, by omega, fun h0 => by first | omega | (simp at q2; omega)⟩)
    · clear E S a; intro a w J; obtain ⟨_, hz, S, E⟩ := J
      refine zAf hK ?_; clear hK; clear K
      refine zBf E rfl (fun hb => ?_) (fun hb => ?_)
      · replace hb := Nrm.nrm hb
        refine wp_seq_k ?_; intro K hK
        refine zAb ?_
        refine zp E (zAd E rfl rfl) ?_; clear E a; intro a E
        refine wpList_nil ?_
        refine zAf hK ?_; clear hK; clear K
        refine wp_ret ?_
        refine zCm ?_
        refine zAv ?_; clear hK; clear K
        refine zAv ?_
        refine zCm ?_
        refine zAv ?_; clear hK; clear K
        refine ret1 E rfl rfl ?_
        exact ⟨_, rfl, by congr 1; exact (risB_no fun q => hz.1 hb (q.2 i hil)).symm, S.tr⟩
      · replace hb := Nrm.nrm hb
        refine wp_skip ?_
        refine zBi ?_
        refine zAf hK ?_; clear hK; clear K
        refine zAb ?_
        refine zp E (zAe E rfl rfl) ?_; clear E a; intro a E
        refine zp E (zBu E rfl rfl rfl (by first | exact zCl (y := 1) (by omega) | exact w_in (by omega) | exact zBt (by omega) | exact rfl)) ?_; clear E a; intro a E
        refine zp E (zAd E rfl rfl) ?_; clear E a; intro a E
        refine wpList_nil ?_
        refine zBq ?_
        exact ⟨_, by omega, i + 1, rfl, by omega, zGu hok hil (Classical.byContradiction fun q => by rw [hz.2 q] at hb; cases hb), S, E.keep (zAa rfl (zAa rfl (zAa rfl (zAa rfl (zAa rfl zAm)))))⟩
  · replace hb := Nrm.nrm hb
    refine wp_exit ?_
    refine zBc ?_; clear hK; clear K
    refine zBc ?_
    refine zCj ?_
    refine zAf hK ?_; clear hK; clear K
    refine wp_seq_k ?_; intro K hK
    refine zAb ?_
    refine zp E (zAe E rfl rfl) ?_; clear E a; intro a E
    refine zp E (by first | exact zBx E rfl rfl rfl | exact zAx E rfl rfl rfl | exact zAq E rfl rfl rfl) ?_; clear E a; intro a E
    refine zp E (zEi E rfl rfl rfl) ?_; clear E a; intro a E
    refine zp E (zAd E rfl rfl) ?_; clear E a; intro a E
    refine wpList_nil ?_
    refine zAf hK ?_; clear hK; clear K
    refine wp_ret ?_
    refine ret1 E rfl rfl ?_
    exact ⟨_, rfl, by congr 1; rw [Bool.eq_iff_iff, ris_end (l := l) (fun k hk => hok k hk (by omega))]; first | (simp; done) | (simp; omega), S.tr⟩
end Go.Proofs.YtbogecljkaimdaaGreatDoor
namespace Go.Sl
def fN : List Bool → Nat
  | [] => 0
  | b :: r => (if b then 1 else 0) + 2 * fN r
theorem fN_step : ∀ (l : List Bool) (i : Nat) (h : i < l.length), fN (l.take (i + 1)) = fN (l.take i) + (if l[i] then 2 ^ i else 0)
  | b :: r, 0, _ => by simp [fN]
  | b :: r, i + 1, h => by
    have ih := fN_step r i (by simpa using h)
    simp only [List.take_succ_cons, fN, List.getElem_cons_succ]
    rw [ih]
    have hi : i < r.length := by simpa using h
    by_cases hr : r[i]'hi = true
    · simp only [hr, if_true, Nat.pow_succ]; split <;> omega
    · simp only [if_neg hr]; omega
theorem fN_lt : ∀ (l : List Bool), fN l < 2 ^ l.length
  | [] => by simp [fN]
  | b :: r => by
    have := fN_lt r
    simp only [fN, List.length_cons, Nat.pow_succ]
    split <;> omega
def zJp : List Bool → List Bool → Bool
  | [], _ => true
  | b :: r, m :: ms => (!b || m) && zJp r ms
  | b :: r, [] => !b && zJp r []
theorem onlyL_iff : ∀ (l m : List Bool), l.length = m.length → ((fN l ||| fN m = fN m) ↔ zJp l m = true)
  | [], [], _ => by simp [fN, zJp]
  | b :: r, c :: ms, h => by
    have ih := onlyL_iff r ms (by simpa using h)
    simp only [fN, zJp, Bool.and_eq_true, ← ih]
    generalize fN r = x
    generalize fN ms = y
    have hd : ∀ z w : Nat, z = w ↔ z / 2 = w / 2 ∧ z % 2 = w % 2 := fun z w => by omega
    have e1 : ∀ (b : Bool) (z : Nat), ((if b = true then 1 else 0) + 2 * z) / 2 = z := fun b z => by cases b <;> simp <;> omega
    have e2 : ∀ (b : Bool) (z : Nat), ((if b = true then 1 else 0) + 2 * z) % 2 ^ 1 = if b = true then 1 else 0 := fun b z => by cases b <;> simp <;> omega
    rw [hd, Nat.or_div_two, show ∀ z : Nat, z % 2 = z % 2 ^ 1 from fun z => rfl, Nat.or_mod_two_pow, e1, e1, e2, e2]
    cases b <;> cases c <;> simp
  | [], _ :: _, h => by simp at h
  | _ :: _, [], h => by simp at h
theorem ori {p q : Nat} (hp : p < 4096) (hq : q < 4096) : bits .or .i64 (p : Int) (q : Int) = ((p ||| q : Nat) : Int) := by
  have h2 : ∀ z : Nat, z < 4096 → (BitVec.ofInt 64 (z : Int)).toNat = z := fun z hz => by
    rw [BitVec.ofInt_natCast, BitVec.toNat_ofNat]; exact Nat.mod_eq_of_lt (by omega)
  show IntKind.i64.wrap (((BitVec.ofInt 64 (p : Int) ||| BitVec.ofInt 64 (q : Int)).toNat : Nat) : Int) = _
  rw [BitVec.toNat_or, h2 p hp, h2 q hq]
  have : p ||| q < 2 ^ 12 := Nat.or_lt_two_pow (by omega) (by omega)
  exact zDy (by omega)
def zIm (r : Rec) : List Bool :=
  [!decide (r.name = []), r.many != 0, r.typ != 0, r.frm != 0, r.guid != 0, r.origin != 0, !decide (r.snap = []), decide ((0 : Int) < (r.props.length : Int)), r.object != 0, r.at_ != 0, decide ((0 : Int) < (r.keep.length : Int)), decide ((0 : Int) < (r.data.length : Int))]
abbrev bo (l : List Bool) : List Value := l.map Value.bool
def msk (m : Nat) : List Bool := (List.range 12).map m.testBit
def zGg (r : Rec) (m : Nat) : Bool := zJp (zIm r) (msk m)
end Go.Sl
namespace Go.Proofs.YtbogecljkaimdaaGreatDoor
open Go.Sl
set_option maxRecDepth 10000
section
variable {C : zAy} {r : Rec} {pv kv dv : Value} (hR : RecR C r pv kv dv) (hs : Sml r) {As : List zAy} (hC : C ∈ As) (w0 : World) (H : Hp w0 As)
include hR hs H
theorem ufields_ret : Ret Tryz.prog 77 #[.agg (r.cells pv kv dv).toArray] w0 fun u w' => u = .int .i64 (fN (zIm r) : Nat) ∧ Trs w0 w' As As := by
  have S := St.begin H
  obtain ⟨ad1, c1, rfl⟩ := hR.pr.slice
  obtain ⟨ad2, c2, rfl⟩ := hR.kr.slice
  obtain ⟨ad3, c3, rfl⟩ := hR.dr.slice
  have h1 := hs.props
  have h2 := hs.keep
  have h3 := hs.data
  obtain ⟨fl, hfl⟩ : ∃ fl, fl = zIm r := ⟨_, rfl⟩
  have hll : fl.length = 12 := by rw [hfl]; rfl
  have hflc : bo fl = [.bool !decide (r.name = []), .bool (r.many != 0), .bool (r.typ != 0), .bool (r.frm != 0), .bool (r.guid != 0), .bool (r.origin != 0), .bool !decide (r.snap = []), .bool (decide ((0 : Int) < (r.props.length : Int))), .bool (r.object != 0), .bool (r.at_ != 0), .bool (decide ((0 : Int) < (r.keep.length : Int))), .bool (decide ((0 : Int) < (r.data.length : Int)))] := by rw [hfl]; rfl
  refine zCx 63 Tryz.func77 rfl rfl (by decide) ?_; intro a E
  refine wp_seq_k ?_; intro K hK
  refine zAb ?_
  refine zAn rfl (zCt E S rfl rfl (by decide) rfl rfl ?_); clear E S a; intro a w b1 E S
  refine zp E (zAd E rfl rfl) ?_; clear E a; intro a E
  refine wpList_nil ?_
  refine zAf hK ?_; clear hK; clear K
  refine wp_seq_k ?_; intro K hK
  refine zAb ?_
  refine zp E (zAd E rfl rfl) ?_; clear E a; intro a E
  refine wpList_nil ?_
  refine zAf hK ?_; clear hK; clear K
  refine wp_seq_k ?_; intro K hK
  refine zAb ?_
  refine zp E (by first | exact zAg (q := 1) E rfl rfl rfl | exact zAh (q := 1) E rfl rfl rfl) ?_; clear E a; intro a E
  refine zp E (by first | exact zAo E rfl rfl rfl (S.get (by repeat (first | exact pk1 | apply zAc))) rfl | exact zAj E rfl rfl rfl (by assumption)) ?_; clear E a; intro a E
  refine zp E (by first | exact zCu E rfl rfl rfl | exact zBg E rfl rfl rfl rfl | exact zBr E rfl rfl rfl rfl | exact zBk E rfl rfl rfl) ?_; clear E a; intro a E
  refine zp E (by first | exact zAg (q := 10) E rfl rfl rfl | exact zAh (q := 10) E rfl rfl rfl) ?_; clear E a; intro a E
  refine zp E (by first | exact zAo E rfl rfl rfl (S.get (by repeat (first | exact pk1 | apply zAc))) rfl | exact zAj E rfl rfl rfl (by assumption)) ?_; clear E a; intro a E
  refine zp E (by first | exact zCu E rfl rfl rfl | exact zBg E rfl rfl rfl rfl | exact zBr E rfl rfl rfl rfl | exact zBk E rfl rfl rfl) ?_; clear E a; intro a E
  refine zp E (by first | exact zAg (q := 2) E rfl rfl rfl | exact zAh (q := 2) E rfl rfl rfl) ?_; clear E a; intro a E
  refine zp E (by first | exact zAo E rfl rfl rfl (S.get (by repeat (first | exact pk1 | apply zAc))) rfl | exact zAj E rfl rfl rfl (by assumption)) ?_; clear E a; intro a E
  refine zp E (by first | exact zCu E rfl rfl rfl | exact zBg E rfl rfl rfl rfl | exact zBr E rfl rfl rfl rfl | exact zBk E rfl rfl rfl) ?_; clear E a; intro a E
  refine zp E (by first | exact zAg (q := 3) E rfl rfl rfl | exact zAh (q := 3) E rfl rfl rfl) ?_; clear E a; intro a E
  refine zp E (by first | exact zAo E rfl rfl rfl (S.get (by repeat (first | exact pk1 | apply zAc))) rfl | exact zAj E rfl rfl rfl (by assumption)) ?_; clear E a; intro a E
  refine zp E (by first | exact zCu E rfl rfl rfl | exact zBg E rfl rfl rfl rfl | exact zBr E rfl rfl rfl rfl | exact zBk E rfl rfl rfl) ?_; clear E a; intro a E
  refine zp E (by first | exact zAg (q := 4) E rfl rfl rfl | exact zAh (q := 4) E rfl rfl rfl) ?_; clear E a; intro a E
  refine zp E (by first | exact zAo E rfl rfl rfl (S.get (by repeat (first | exact pk1 | apply zAc))) rfl | exact zAj E rfl rfl rfl (by assumption)) ?_; clear E a; intro a E
  refine zp E (by first | exact zCu E rfl rfl rfl | exact zBg E rfl rfl rfl rfl | exact zBr E rfl rfl rfl rfl | exact zBk E rfl rfl rfl) ?_; clear E a; intro a E
  refine zp E (by first | exact zAg (q := 5) E rfl rfl rfl | exact zAh (q := 5) E rfl rfl rfl) ?_; clear E a; intro a E
  refine zp E (by first | exact zAo E rfl rfl rfl (S.get (by repeat (first | exact pk1 | apply zAc))) rfl | exact zAj E rfl rfl rfl (by assumption)) ?_; clear E a; intro a E
  refine zp E (by first | exact zCu E rfl rfl rfl | exact zBg E rfl rfl rfl rfl | exact zBr E rfl rfl rfl rfl | exact zBk E rfl rfl rfl) ?_; clear E a; intro a E
  refine zp E (by first | exact zAg (q := 6) E rfl rfl rfl | exact zAh (q := 6) E rfl rfl rfl) ?_; clear E a; intro a E
  refine zp E (by first | exact zAo E rfl rfl rfl (S.get (by repeat (first | exact pk1 | apply zAc))) rfl | exact zAj E rfl rfl rfl (by assumption)) ?_; clear E a; intro a E
  refine zp E (by first | exact zCu E rfl rfl rfl | exact zBg E rfl rfl rfl rfl | exact zBr E rfl rfl rfl rfl | exact zBk E rfl rfl rfl) ?_; clear E a; intro a E
  refine zp E (by first | exact zAg (q := 7) E rfl rfl rfl | exact zAh (q := 7) E rfl rfl rfl) ?_; clear E a; intro a E
  refine zp E (by first | exact zAo E rfl rfl rfl (S.get (by repeat (first | exact pk1 | apply zAc))) rfl | exact zAj E rfl rfl rfl (by assumption)) ?_; clear E a; intro a E
  refine zp E (by first | exact zBx E rfl rfl rfl | exact zAx E rfl rfl rfl | exact zAq E rfl rfl rfl) ?_; clear E a; intro a E
  refine zp E (zDm E rfl rfl rfl) ?_; clear E a; intro a E
  refine zp E (by first | exact zAg (q := 8) E rfl rfl rfl | exact zAh (q := 8) E rfl rfl rfl) ?_; clear E a; intro a E
  refine zp E (by first | exact zAo E rfl rfl rfl (S.get (by repeat (first | exact pk1 | apply zAc))) rfl | exact zAj E rfl rfl rfl (by assumption)) ?_; clear E a; intro a E
  refine zp E (by first | exact zCu E rfl rfl rfl | exact zBg E rfl rfl rfl rfl | exact zBr E rfl rfl rfl rfl | exact zBk E rfl rfl rfl) ?_; clear E a; intro a E
  refine zp E (by first | exact zAg (q := 9) E rfl rfl rfl | exact zAh (q := 9) E rfl rfl rfl) ?_; clear E a; intro a E
  refine zp E (by first | exact zAo E rfl rfl rfl (S.get (by repeat (first | exact pk1 | apply zAc))) rfl | exact zAj E rfl rfl rfl (by assumption)) ?_; clear E a; intro a E
  refine zp E (by first | exact zCu E rfl rfl rfl | exact zBg E rfl rfl rfl rfl | exact zBr E rfl rfl rfl rfl | exact zBk E rfl rfl rfl) ?_; clear E a; intro a E
  refine zp E (by first | exact zAg (q := 11) E rfl rfl rfl | exact zAh (q := 11) E rfl rfl rfl) ?_; clear E a; intro a E
  refine zp E (by first | exact zAo E rfl rfl rfl (S.get (by repeat (first | exact pk1 | apply zAc))) rfl | exact zAj E rfl rfl rfl (by assumption)) ?_; clear E a; intro a E
  refine zp E (by first | exact zBx E rfl rfl rfl | exact zAx E rfl rfl rfl | exact zAq E rfl rfl rfl) ?_; clear E a; intro a E
  refine zp E (zDm E rfl rfl rfl) ?_; clear E a; intro a E
  refine zp E (by first | exact zAg (q := 12) E rfl rfl rfl | exact zAh (q := 12) E rfl rfl rfl) ?_; clear E a; intro a E
  refine zp E (by first | exact zAo E rfl rfl rfl (S.get (by repeat (first | exact pk1 | apply zAc))) rfl | exact zAj E rfl rfl rfl (by assumption)) ?_; clear E a; intro a E
  refine zp E (by first | exact zBx E rfl rfl rfl | exact zAx E rfl rfl rfl | exact zAq E rfl rfl rfl) ?_; clear E a; intro a E
  refine zp E (zDm E rfl rfl rfl) ?_; clear E a; intro a E
  refine zAn rfl (zDg (cells := [_, _, _, _, _, _, _, _, _, _, _, _]) E S rfl rfl (by decide) rfl rfl rfl rfl rfl (by decide) rfl ?_); clear E S a; intro a w b46 E S
  rw [← hflc] at S
  refine zp E (zAd E rfl rfl) ?_; clear E a; intro a E
  refine wpList_nil ?_
  refine zAf hK ?_; clear hK; clear K
  refine wp_seq_k ?_; intro K hK
  replace E := E.keep (e' := [(2, _), (3, _), (4, _)]) (zAa rfl (zAa rfl (zAa rfl (zAm))))
  refine zAb ?_
  refine zp E (zAd E rfl rfl) ?_; clear E a; intro a E
  refine wpList_nil ?_
  refine zAf hK ?_; clear hK; clear K
  iterate 2 (refine wp_seq_k ?_; intro K hK)
  refine zAb ?_
  refine zp E (zAd E rfl rfl) ?_; clear E a; intro a E
  refine wpList_nil ?_
  refine zAf hK ?_; clear hK; clear K
  refine wp_block ?_
  refine wp_loop_ghost (fun (m : Nat) (a : Act) (w' : World) => ∃ i : Nat, m = 12 - i ∧ i ≤ 12 ∧ St w0 As w' ([(b46, cel (bo fl) 4)] :: As) ∧ Fr a 63 [(3, .int .i64 (fN (fl.take i) : Nat)), (4, .slice (some ⟨b46, 0, none⟩) 12 12), (5, .int .i64 (2 ^ i : Nat)), (6, .int .i64 i)]) (12) ?_ ?_
  · exact ⟨0, by omega, by omega, S.perm2.tail, E.keep (zAa rfl (zAa rfl (zAa rfl (zAa rfl zAm))))⟩
  clear E; clear a; (try clear S); rintro m a w ⟨i, rfl, hi, S, E⟩
  iterate 2 (refine wp_seq_k ?_; intro K hK)
  refine zAb ?_
  iterate 2 (refine zp E (zAe E rfl rfl) ?_; clear E a; intro a E)
  refine zp E (by first | exact zBx E rfl rfl rfl | exact zAx E rfl rfl rfl | exact zAq E rfl rfl rfl) ?_; clear E a; intro a E
  refine zp E (zCn E rfl rfl rfl) ?_; clear E a; intro a E
  refine wpList_nil ?_
  refine zAf hK ?_; clear hK; clear K
  refine zBf E rfl (fun hb => ?_) (fun hb => ?_)
  · replace hb := Nrm.nrm hb
    refine wp_skip ?_
    refine zAf hK ?_; clear hK; clear K
    refine wp_seq_k ?_; intro K hK
    refine wp_block ?_
    iterate 2 (refine wp_seq_k ?_; intro K hK)
    have hil : i < fl.length := by omega
    have hst := fN_step fl i hil
    have hlt := fN_lt (fl.take i)
    rw [List.length_take, Nat.min_eq_left (by omega)] at hlt
    have hp : 2 ^ i ≤ 2048 := Nat.pow_le_pow_right (n := 2) (j := 11) (by omega) (by omega)
    have hps : 2 ^ (i + 1) = 2 * 2 ^ i := by rw [Nat.pow_succ, Nat.mul_comm]
    obtain ⟨q, hq⟩ : ∃ q, q = 2 ^ i := ⟨_, rfl⟩
    rw [← hq] at E hp hlt hst hps
    refine zAb ?_
    iterate 2 (refine zp E (zAe E rfl rfl) ?_; clear E a; intro a E)
    refine zp E (by first | exact zBl E rfl rfl rfl rfl rfl rfl (by omega) | exact zBv E rfl rfl rfl rfl rfl rfl (by omega) | exact zBj E rfl rfl rfl rfl rfl rfl (by omega)) ?_; clear E a; intro a E
    refine zp E (zAj E rfl rfl rfl (zDf (S.get (by repeat (first | exact pk1 | apply zAc))) (by rw [Nat.zero_add, List.getElem?_map, List.getElem?_eq_getElem hil]; rfl))) ?_; clear E a; intro a E
    refine wpList_nil ?_
    refine zAf hK ?_; clear hK; clear K
    refine zDw (fun (a : Act) (w' : World) => St w0 As w' ([(b46, cel (bo fl) 4)] :: As) ∧ Fr a 63 [(3, .int .i64 (fN (fl.take (i + 1)) : Nat)), (4, .slice (some ⟨b46, 0, none⟩) 12 12), (5, .int .i64 (q : Nat)), (6, .int .i64 i)]) ?_ ?_
    · skip
      refine zBf E rfl (fun hb => ?_) (fun hb => ?_)
      · replace hb := Nrm.nrm hb
        refine zAb ?_
        iterate 2 (refine zp E (zAe E rfl rfl) ?_; clear E a; intro a E)
        refine zp E (zBu E rfl rfl rfl (by first | exact wa1 (by omega) | exact w_in (by omega) | exact zBt (by omega) | exact rfl)) ?_; clear E a; intro a E
        refine zp E (zAd E rfl rfl) ?_; clear E a; intro a E
        refine wpList_nil ?_
        refine zAu ?_
        rw [hst, if_pos hb]; exact ⟨S, E.keep (zAa rfl (zAa rfl (zAa rfl (zAa rfl zAm))))⟩
      · replace hb := Nrm.nrm hb
        refine wp_skip ?_
        refine zAu ?_
        rw [hst, if_neg (by rw [hb]; decide)]; exact ⟨S, E.keep (zAa rfl (zAa rfl (zAa rfl (zAa rfl zAm))))⟩
    · clear S E a; intro a w J; obtain ⟨S, E⟩ := J
      refine zAf hK ?_; clear hK; clear K
      refine zAb ?_
      refine zp E (zAe E rfl rfl) ?_; clear E a; intro a E
      refine zp E (zFb E rfl rfl rfl (by first | exact zFp (x := 2) (by omega) | exact zEt (x := 2) (by omega) | exact w_in (by omega) | exact rfl)) ?_; clear E a; intro a E
      refine zp E (zAd E rfl rfl) ?_; clear E a; intro a E
      refine wpList_nil ?_
      refine zBi ?_
      refine zAf hK ?_; clear hK; clear K
      refine zAb ?_
      refine zp E (zAe E rfl rfl) ?_; clear E a; intro a E
      refine zp E (zBu E rfl rfl rfl (by first | exact zCl (y := 1) (by omega) | exact w_in (by omega) | exact zBt (by omega) | exact rfl)) ?_; clear E a; intro a E
      refine zp E (zAd E rfl rfl) ?_; clear E a; intro a E
      refine wpList_nil ?_
      refine zBq ?_
      exact ⟨_, by omega, i + 1, rfl, by omega, S, by rw [hps]; exact E.keep (zAa rfl (zAa rfl (zAa rfl (zAa rfl zAm))))⟩
  · replace hb := Nrm.nrm hb
    refine wp_exit ?_
    refine zBc ?_; clear hK; clear K
    refine zBc ?_
    refine zCj ?_
    refine zAf hK ?_; clear hK; clear K
    refine wp_seq_k ?_; intro K hK
    refine zAb ?_
    refine zp E (zAe E rfl rfl) ?_; clear E a; intro a E
    refine zp E (zAd E rfl rfl) ?_; clear E a; intro a E
    refine wpList_nil ?_
    refine zAf hK ?_; clear hK; clear K
    refine wp_ret ?_
    refine ret1 E rfl rfl ?_
    obtain rfl : i = 12 := by omega
    rw [List.take_of_length_le (by omega), hfl] at E
    exact ⟨_, rfl, by rw [List.take_of_length_le (by omega), hfl], S.tail.tr⟩
theorem zGw (m : Nat) (hm : m < 4096) (hmk : fN (msk m) = m) : Ret Tryz.prog 33 #[.agg (r.cells pv kv dv).toArray, .int .i64 m] w0 fun u w' => u = .bool (zGg r m) ∧ Trs w0 w' As As := by
  have S := St.begin H
  obtain ⟨ad1, c1, rfl⟩ := hR.pr.slice
  obtain ⟨ad2, c2, rfl⟩ := hR.kr.slice
  obtain ⟨ad3, c3, rfl⟩ := hR.dr.slice
  have hlt : fN (zIm r) < 4096 := by
    have h := fN_lt (zIm r)
    rw [show (zIm r).length = 12 from rfl] at h
    omega
  obtain ⟨n, hn⟩ : ∃ n, n = fN (zIm r) := ⟨_, rfl⟩
  rw [← hn] at hlt
  have hfin : ((((n ||| m : Nat) : Int) == (m : Int)) : Bool) = zGg r m := by
    rw [Bool.eq_iff_iff, zGg, ← onlyL_iff (zIm r) (msk m) (by simp [zIm, msk]), hmk, ← hn]
    simp only [beq_iff_eq]
    omega
  refine zCr 11 Tryz.func33 rfl rfl (by decide) ?_; intro a E
  refine wp_seq_k ?_; intro K hK
  refine zAb ?_
  refine zAn rfl (zCt E S rfl rfl (by decide) rfl rfl ?_); clear E S a; intro a w b2 E S
  refine zp E (zAd E rfl rfl) ?_; clear E a; intro a E
  refine wpList_nil ?_
  refine zAf hK ?_; clear hK; clear K
  refine wp_seq_k ?_; intro K hK
  refine zAb ?_
  refine zp E (zBp (vs := [_, _, _, _, _, _, _, _, _, _, _, _, _]) E rfl rfl rfl (S.get (by repeat (first | exact pk1 | apply zAc))) rfl rfl) ?_; clear E a; intro a E
  refine zAp E rfl rfl (by decide) rfl Tryz.func77 rfl (by kernel_rfl) rfl (ufields_ret hR hs _ S.hp) ?_
  rintro v6 w ⟨he, hT⟩; clear E a; intro a E
  rw [← hn] at he; subst he; have S := S.all hT
  refine zp E (zAe E rfl rfl) ?_; clear E a; intro a E
  refine zp E (zIg E rfl rfl rfl (ori hlt hm)) ?_; clear E a; intro a E
  refine zp E (zAe E rfl rfl) ?_; clear E a; intro a E
  refine zp E (by first | exact zCe E rfl rfl rfl | exact zAt E rfl rfl rfl rfl | exact zBd E rfl rfl rfl rfl | exact zAw E rfl rfl rfl) ?_; clear E a; intro a E
  refine zp E (zAd E rfl rfl) ?_; clear E a; intro a E
  refine wpList_nil ?_
  refine zAf hK ?_; clear hK; clear K
  refine wp_ret ?_
  refine ret1 E rfl rfl ?_
  exact ⟨_, rfl, by rw [hfin], S.tail.tr⟩
end
end Go.Proofs.YtbogecljkaimdaaGreatDoor
