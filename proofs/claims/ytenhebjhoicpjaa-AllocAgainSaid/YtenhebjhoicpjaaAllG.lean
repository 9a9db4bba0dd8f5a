/-
  Allocators: the order of the tops.
-/
import Derived.Test.YtenhebjhoicpjaaAllF
namespace Go.Sl
theorem Trs.of_mem {w0 w' : World} {As Rs : List Chunk} {C : Chunk} (p : As.Perm (C :: Rs)) (h : Hp w0 As) (t : Trs w0 w' [C] [C]) : Trs w0 w' As As :=
  (((St.begin h).call (Bs := [C]) (Rs := Rs) p t).perm p.symm).tr
theorem perm_of_mem {α : Type} {l : List α} {x : α} (h : x ∈ l) : ∃ r, l.Perm (x :: r) := by
  obtain ⟨a, b, rfl⟩ := List.append_of_mem h
  exact ⟨_, List.perm_middle⟩
theorem Hp.mem {w0 : World} {As Rs : List Chunk} {C : Chunk} (p : As.Perm (C :: Rs)) (h : Hp w0 As) : Hp w0 [C] := h.sel (As := [C]) (Rs := Rs) p
theorem fr_at {y : Al} {F : List Sset} (h : y.free = F.map (·.l)) {t : Nat} (ht : t < F.length) : y.fr t = F[t].l := by
  unfold Al.fr; rw [h, List.getD_eq_getElem?_getD, List.getElem?_map, List.getElem?_eq_getElem ht]; rfl
theorem wt_at {y : Al} {F : List Sset} (h : y.waits = F.map (·.l)) {t : Nat} (ht : t < F.length) : y.wt t = F[t].l := by
  unfold Al.wt; rw [h, List.getD_eq_getElem?_getD, List.getElem?_map, List.getElem?_eq_getElem ht]; rfl
def jv (i : Nat) : Value := .int .i64 i
end Go.Sl
namespace Go.Proofs.Ytenhebjhoicpjaa
open Go.Sl
set_option maxRecDepth 10000

theorem Hp.inn {α : Type} {P : Program} {f : FuncId} {args : Array Value} {w0 : World} {R : α → Value → Prop} {z : α} {As : List Chunk} {C : Chunk} (hC : C ∈ As) (H : Hp w0 As)
    (h : ∀ H' : Hp w0 [C], Ret P f args w0 fun u w' => R z u ∧ Trs w0 w' [C] [C]) : Ret P f args w0 fun u w' => R z u ∧ Trs w0 w' As As := by
  obtain ⟨Rs, p⟩ := perm_of_mem hC
  exact (h (Hp.mem p H)).mono fun u w' ⟨h1, h2⟩ => ⟨h1, Trs.of_mem p H h2⟩
theorem many_in (p : Nat) (l : List Sp) (mn : Int) (C : Chunk) (hA : SetC p l mn C) {As : List Chunk} (hC : C ∈ As) (w0 : World) (H : Hp w0 As) :
    Ret Try.prog 29 #[ptr p] w0 fun u w' => u = .int .i64 mn ∧ Trs w0 w' As As :=
  Hp.inn (R := fun (z : Int) u => u = .int .i64 z) hC H fun H' => many_ret p l mn C w0 hA H'
theorem find_in (p : Nat) (l : List Sp) (mn n f : Int) (C : Chunk) (hA : SetC p l mn C) (hG : Okl l) (hn : n ≤ 9223372036854775807) (hf : f ≤ 9223372036854775807) {As : List Chunk} (hC : C ∈ As) (w0 : World) (H : Hp w0 As) :
    Ret Try.prog 30 #[ptr p, .int .i64 n, .int .i64 f] w0 fun u w' => u = .tuple #[.int .i64 (findL l n f).1, .bool (findL l n f).2] ∧ Trs w0 w' As As :=
  Hp.inn (R := fun (z : Int × Bool) u => u = .tuple #[.int .i64 z.1, .bool z.2]) (z := findL l n f) hC H fun H' => find_ret p l mn n f C w0 hA hG hn hf H'

theorem Av.inF {V : Av} {f : Sset} (h : f ∈ V.F) {p : Nat} {Ls : List Chunk} : f.C ∈ V.chs p ++ Ls :=
  List.mem_append_left _ (List.mem_cons_of_mem _ (List.mem_cons_of_mem _ (List.mem_cons_of_mem _ (List.mem_cons_of_mem _ (List.mem_cons_of_mem _ (List.mem_append_left _ (List.mem_map_of_mem h)))))))
theorem Av.inW {V : Av} {f : Sset} (h : f ∈ V.W) {p : Nat} {Ls : List Chunk} : f.C ∈ V.chs p ++ Ls :=
  List.mem_append_left _ (List.mem_cons_of_mem _ (List.mem_cons_of_mem _ (List.mem_cons_of_mem _ (List.mem_cons_of_mem _ (List.mem_cons_of_mem _ (List.mem_append_right _ (List.mem_append_left _ (List.mem_map_of_mem h))))))))
section
variable {V : Av} {y : Al} {p : Nat} {FA FB : List Sset} {f f' : Sset} {w0 w : World} {As Ls : List Chunk}
abbrev Av.restF (V : Av) (p : Nat) (A B : List Sset) : List Chunk := [(p, cel [V.vs, V.vf, V.vw, .map (some V.r)] 54)] :: V.Cz :: V.Cf :: V.Cw :: [(V.r, .map (mes .u64 (V.G.map Gr.me)) V.clock)] :: ((A ++ B).map (·.C) ++ (V.W.map (·.C) ++ V.G.map (·.C)))
abbrev Av.restW (V : Av) (p : Nat) (A B : List Sset) : List Chunk := [(p, cel [V.vs, V.vf, V.vw, .map (some V.r)] 54)] :: V.Cz :: V.Cf :: V.Cw :: [(V.r, .map (mes .u64 (V.G.map Gr.me)) V.clock)] :: (V.F.map (·.C) ++ ((A ++ B).map (·.C) ++ V.G.map (·.C)))
/-- One chunk of many opened where it stands, and closed. -/
theorem St.opn (Ds : List Chunk) {Ms : List Chunk} (S : St w0 As w (Ds ++ (Ms.flatten :: Ls))) : St w0 As w (Ds ++ (Ms ++ Ls)) := ⟨S.hp0, by have h := S.tr; unfold Trs at *; simpa [List.flatten_cons, List.flatten_append] using h⟩
theorem St.cls (Ds : List Chunk) {Ms : List Chunk} (S : St w0 As w (Ds ++ (Ms ++ Ls))) : St w0 As w (Ds ++ (Ms.flatten :: Ls)) := ⟨S.hp0, by have h := S.tr; unfold Trs at *; simpa [List.flatten_cons, List.flatten_append] using h⟩
theorem focF (Ds : List Chunk) (hF : V.F = FA ++ f :: FB) (S : St w0 As w (Ds ++ (V.chs p ++ Ls))) : St w0 As w (f.C :: (Ds ++ (V.restF p FA FB ++ Ls))) := by
  refine S.perm (List.Perm.trans (List.Perm.append_left Ds ?_) List.perm_middle)
  show (_ :: V.Cz :: V.Cf :: V.Cw :: _ :: (V.F.map (·.C) ++ _) ++ Ls).Perm _
  rw [hF]
  exact focP5 (g := fun s : Sset => s.C)
theorem unfocF (Ds : List Chunk) (S : St w0 As w (f'.C :: (Ds ++ (V.restF p FA FB ++ Ls)))) : St w0 As w (Ds ++ (Av.chs { V with F := FA ++ f' :: FB } p ++ Ls)) :=
  S.perm (List.Perm.trans (List.Perm.append_left Ds (focP5 (g := fun s : Sset => s.C))) List.perm_middle).symm
theorem focW (Ds : List Chunk) (hF : V.W = FA ++ f :: FB) (S : St w0 As w (Ds ++ (V.chs p ++ Ls))) : St w0 As w (f.C :: (Ds ++ (V.restW p FA FB ++ Ls))) := by
  refine S.perm (List.Perm.trans (List.Perm.append_left Ds ?_) List.perm_middle)
  show (_ :: V.Cz :: V.Cf :: V.Cw :: _ :: (_ ++ (V.W.map (·.C) ++ _)) ++ Ls).Perm _
  rw [hF]
  exact focP6 (g := fun s : Sset => s.C)
theorem unfocW (Ds : List Chunk) (S : St w0 As w (f'.C :: (Ds ++ (V.restW p FA FB ++ Ls)))) : St w0 As w (Ds ++ (Av.chs { V with W := FA ++ f' :: FB } p ++ Ls)) :=
  S.perm (List.Perm.trans (List.Perm.append_left Ds (focP6 (g := fun s : Sset => s.C))) List.perm_middle).symm
theorem Av.Ok.newF (hV : V.Ok y) (hF : V.F = FA ++ f :: FB) {l : List Sp} {C2 : Chunk} (hC : SetC f.p l (manyL l) C2) : Av.Ok { V with F := FA ++ ⟨f.p, l, C2⟩ :: FB } (y.setF FA.length l) := by
  obtain ⟨vs, vf, vw, Cz, Cf, Cw, F, W, G, r, clock⟩ := V
  simp only at hF; subst hF
  exact hV.putF hC
theorem Av.Ok.newW (hV : V.Ok y) (hF : V.W = FA ++ f :: FB) {l : List Sp} {C2 : Chunk} (hC : SetC f.p l (manyL l) C2) : Av.Ok { V with W := FA ++ ⟨f.p, l, C2⟩ :: FB } (y.setW FA.length l) := by
  obtain ⟨vs, vf, vw, Cz, Cf, Cw, F, W, G, r, clock⟩ := V
  simp only at hF; subst hF
  exact hV.putW hC
end
theorem take1_ret (p : Nat) (y : Al) (A : Chunk) (hA : AlC p y A) (bx : Nat) (i k : Nat) (hi : i < y.sizes.length) (hk : k < y.sizes.length) (w0 : World) (H : Hp w0 [A, [(bx, cel [ptr p] 24)]]) :
    Ret Try.prog 27 #[.int .i64 i, .int .i64 k, ptr bx] w0 fun u w' => ∃ q : Int, u = .int .i64 q ∧ (q < 0 ↔ y.lt i k = true) ∧ Trs w0 w' [A, [(bx, cel [ptr p] 24)]] [A, [(bx, cel [ptr p] 24)]] := by
  obtain ⟨ho, ⟨vs, vf, vw, Cz, Cf, Cw, F, W, G, r, clock⟩, hV, rfl⟩ := hA
  have hl := hV.lenF ho
  simp only at hl
  obtain ⟨f1, f2, evf⟩ := hV.f.slice
  simp only at evf; subst evf
  obtain ⟨fb, fo, rfl⟩ := hV.f.rd.addr (by show 0 < F.length; omega)
  have S := (St.begin H).openF
  refine enter3 23 Try.func27 rfl rfl (by decide) ?_; intro a E
  refine wp_seq_k ?_; intro K hK
  refine region_list ?_
  refine list_pure E rfl rfl (by decide) (rn_assign E rfl rfl) ?_; clear E a; intro a E
  refine wpList_nil ?_
  refine then_k hK ?_; clear hK; clear K
  refine wp_seq_k ?_; intro K hK
  refine region_mix S (.ofL [(0, 0), (1, 0), (2, 0), (3, 0), (4, 0), (5, 0), (6, 0), (8, 0), (9, 0), (10, 0), (11, 0), (12, 0), (13, 0), (14, 0), (7, 1), (15, 1), (16, 3), (17, 2)]) [hdc p vs (.slice (some ⟨fb, fo, none⟩) F.length f2) vw r, Cf, [(bx, cel [ptr p] 24)]] (fun h => h.sub (by first | (simp; done) | (simp +contextual; done) | (simp [*]; done))) (by kernel_rfl) (by kernel_rfl) ?_
  clear S; intro w S
  refine mix_pure E rfl rfl rfl (by decide) (fun w h => by first | exact rn_load E rfl rfl rfl (h.one (by repeat (first | exact mm1 | assumption | apply List.Mem.tail))) rfl | exact rn_loadc E rfl rfl rfl (by assumption)) ?_; clear E a; intro a E
  refine mix_pure E rfl rfl rfl (by decide) (fun w h => rn_nilCheck E rfl rfl) ?_; clear E a; intro a E
  refine mix_pure E rfl rfl rfl (by decide) (fun w h => by first | exact rn_fieldAddr0 (q := 1) E rfl rfl rfl | exact rn_fieldAddr (q := 1) E rfl rfl rfl) ?_; clear E a; intro a E
  refine mix_pure E rfl rfl rfl (by decide) (fun w h => by first | exact rn_load E rfl rfl rfl (h.one (by repeat (first | exact mm1 | assumption | apply List.Mem.tail))) rfl | exact rn_loadc E rfl rfl rfl (by assumption)) ?_; clear E a; intro a E
  refine mix_pure E rfl rfl rfl (by decide) (fun w h => rn_move E rfl rfl) ?_; clear E a; intro a E
  refine mix_pure E rfl rfl rfl (by decide) (fun w h => by first | exact rn_indexAddr1 E rfl rfl rfl rfl rfl rfl (by omega) | exact rn_indexAddr E rfl rfl rfl rfl rfl rfl (by omega) | exact rn_indexAddr_array E rfl rfl rfl rfl rfl rfl (by omega)) ?_; clear E a; intro a E
  refine mix_pure E rfl rfl rfl (by decide) (fun w h => rn_loadc E rfl rfl rfl (hV.f.rd.at1 (h.at (by repeat (first | exact mm1 | assumption | apply List.Mem.tail))) (show k < F.length by omega))) ?_; clear E a; intro a E
  refine mix_pure E rfl rfl rfl (by decide) (fun w h => by first | exact rn_load E rfl rfl rfl (h.one (by repeat (first | exact mm1 | assumption | apply List.Mem.tail))) rfl | exact rn_loadc E rfl rfl rfl (by assumption)) ?_; clear E a; intro a E
  refine mix_pure E rfl rfl rfl (by decide) (fun w h => rn_nilCheck E rfl rfl) ?_; clear E a; intro a E
  refine mix_pure E rfl rfl rfl (by decide) (fun w h => by first | exact rn_fieldAddr0 (q := 1) E rfl rfl rfl | exact rn_fieldAddr (q := 1) E rfl rfl rfl) ?_; clear E a; intro a E
  refine mix_pure E rfl rfl rfl (by decide) (fun w h => by first | exact rn_load E rfl rfl rfl (h.one (by repeat (first | exact mm1 | assumption | apply List.Mem.tail))) rfl | exact rn_loadc E rfl rfl rfl (by assumption)) ?_; clear E a; intro a E
  refine mix_pure E rfl rfl rfl (by decide) (fun w h => rn_move E rfl rfl) ?_; clear E a; intro a E
  refine mix_pure E rfl rfl rfl (by decide) (fun w h => by first | exact rn_indexAddr1 E rfl rfl rfl rfl rfl rfl (by omega) | exact rn_indexAddr E rfl rfl rfl rfl rfl rfl (by omega) | exact rn_indexAddr_array E rfl rfl rfl rfl rfl rfl (by omega)) ?_; clear E a; intro a E
  refine mix_pure E rfl rfl rfl (by decide) (fun w h => rn_loadc E rfl rfl rfl (hV.f.rd.at1 (h.at (by repeat (first | exact mm1 | assumption | apply List.Mem.tail))) (show i < F.length by omega))) ?_; clear E a; intro a E
  refine mix_call E rfl rfl rfl (by decide) rfl Try.func29 rfl (by kernel_rfl) rfl (many_in (F[k]'(by omega)).p _ _ (F[k]'(by omega)).C (hV.fs _ (List.getElem_mem _)) (Av.inF (List.getElem_mem _)) _ S.hp) ?_
  rintro v13 w ⟨rfl, hT⟩; clear E a; intro a E
  have S := S.all hT
  refine ⟨S.stab.sub (by first | (simp; done) | (simp +contextual; done) | (simp [*]; done)), ?_⟩
  refine mix_call E rfl rfl rfl (by decide) rfl Try.func29 rfl (by kernel_rfl) rfl (many_in (F[i]'(by omega)).p _ _ (F[i]'(by omega)).C (hV.fs _ (List.getElem_mem _)) (Av.inF (List.getElem_mem _)) _ S.hp) ?_
  rintro v21 w ⟨rfl, hT⟩; clear E a; intro a E
  have S := S.all hT
  refine ⟨S.stab.sub (by first | (simp; done) | (simp +contextual; done) | (simp [*]; done)), ?_⟩
  refine mix_call3 E rfl rfl rfl (by decide) rfl Try.func28 rfl (by kernel_rfl) rfl (cmp_ret _ _ _ _ S.hp) ?_
  rintro v22 w ⟨z, rfl, hz, hT⟩; clear E a; intro a E
  have S := S.all hT
  refine mix_free E rfl rfl rfl (by decide) (fun w => rn_assign E rfl rfl) ?_; clear E a; intro a E
  refine mix_nil ?_
  refine then_k hK ?_; clear hK; clear K
  refine wp_ret ?_
  refine ret1 E rfl rfl ?_
  exact ⟨_, rfl, z, rfl, by rw [hz]; simp only [Al.lt, decide_eq_true_eq, fr_at hV.ef (show i < F.length by omega), fr_at hV.ef (show k < F.length by omega)], S.closeF.tr⟩
end Go.Proofs.Ytenhebjhoicpjaa
