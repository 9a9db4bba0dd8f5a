/-
  Allocators: all blocks of one in one chunk.
-/
import Derived.Test.YtenhebjhoicpjaaAllD
namespace Go.Sl
structure Sset where
  p : Nat
  l : List Sp
  C : Chunk
structure Gr where
  key : Int
  ps : List Pl
  val : Value
  born : Nat
  C : Chunk
def Gr.me (g : Gr) : Me := ⟨g.key, g.val, g.born⟩
def Gr.kp (g : Gr) : Int × List Pl := (g.key, g.ps)
section
variable {C : Chunk} {w : World}
theorem Rd.mid {α : Type} {g : α → Value} {A B : List α} {x : α} {m b off c : Nat} (h : Rd C 1 (.slice (some ⟨b, off, none⟩) m c) m ((A ++ x :: B).map g)) (hC : ∀ x ∈ C, w.heap[x.1]? = some x.2) : w.cell? ⟨b, off + A.length, none⟩ = some (g x) :=
  h.cells hC rfl A.length (g x) (by simp)
theorem Rd.midi {α : Type} {g : α → Value} {A B : List α} {x : α} {i m b off c : Nat} (hi : A.length = i) (h : Rd C 1 (.slice (some ⟨b, off, none⟩) m c) m ((A ++ x :: B).map g)) (hC : ∀ x ∈ C, w.heap[x.1]? = some x.2) : w.cell? ⟨b, off + i, none⟩ = some (g x) := hi ▸ h.mid hC
end
theorem split_at {α : Type} {l : List α} {i : Nat} (h : i < l.length) : ∃ A x B, l = A ++ x :: B ∧ A.length = i :=
  ⟨l.take i, l[i], l.drop (i + 1), by rw [← List.drop_eq_getElem_cons h, List.take_append_drop], by rw [List.length_take]; omega⟩
theorem getD_mid {α β : Type} (g : α → β) (A B : List α) (x : α) (d : β) : ((A ++ x :: B).map g).getD A.length d = g x := by
  rw [List.getD_eq_getElem?_getD]; simp
theorem set_mid {α β : Type} (g : α → β) (A B : List α) (x y : α) : ((A ++ x :: B).map g).set A.length (g y) = (A ++ y :: B).map g := by simp
theorem out_mid {α : Type} (g : α → Chunk) (Y : List Chunk) (A B : List α) (x : α) (X : List Chunk) : (Y ++ ((A ++ x :: B).map g ++ X)).Perm (g x :: (Y ++ ((A ++ B).map g ++ X))) := by
  have h1 : ((A ++ x :: B).map g ++ X).Perm (g x :: ((A ++ B).map g ++ X)) := by
    rw [List.map_append, List.map_cons, List.map_append, List.append_assoc, List.append_assoc]; exact List.perm_middle
  exact (h1.append_left Y).trans List.perm_middle
end Go.Sl
namespace Go.Proofs.Ytenhebjhoicpjaa
open Go.Sl
set_option maxRecDepth 10000

/-- A state as it lies: the header's values, the buffers, the sets, the map. -/
structure Av where
  vs : Value
  vf : Value
  vw : Value
  Cz : Chunk
  Cf : Chunk
  Cw : Chunk
  F : List Sset
  W : List Sset
  G : List Gr
  r : Nat
  clock : Nat
def setOk (f : Sset) : Prop := SetC f.p f.l (manyL f.l) f.C
def grOk (g : Gr) : Prop := Buf g.C 33 3 g.val g.ps.length (g.ps.flatMap Pl.lay)
structure Av.Ok (V : Av) (a : Al) : Prop where
  z : Buf V.Cz 3 1 V.vs a.sizes.length (a.sizes.map iv)
  f : Buf V.Cf 55 1 V.vf V.F.length (V.F.map fun f => ptr f.p)
  w : Buf V.Cw 55 1 V.vw V.W.length (V.W.map fun f => ptr f.p)
  fs : ∀ f ∈ V.F, setOk f
  ws : ∀ f ∈ V.W, setOk f
  gs : ∀ g ∈ V.G, grOk g
  ef : a.free = V.F.map (·.l)
  ew : a.waits = V.W.map (·.l)
  eg : a.by_ = V.G.map Gr.kp
  me : MeOk (V.G.map Gr.me) V.clock
abbrev Av.tail (V : Av) : List Chunk := V.F.map (·.C) ++ (V.W.map (·.C) ++ V.G.map (·.C))
abbrev Av.chs (V : Av) (p : Nat) : List Chunk := [(p, cel [V.vs, V.vf, V.vw, .map (some V.r)] 54)] :: V.Cz :: V.Cf :: V.Cw :: [(V.r, .map (mes .u64 (V.G.map Gr.me)) V.clock)] :: V.tail
def AlC (p : Nat) (a : Al) (A : Chunk) : Prop := a.Ok ∧ ∃ V : Av, V.Ok a ∧ A = (V.chs p).flatten
section
variable {w0 w : World} {As Ls X Y : List Chunk} {α : Type} {g : α → Chunk} {A B : List α} {x : α} {c1 c2 c3 c4 c5 d : Chunk}
theorem focP5 : ((c1 :: c2 :: c3 :: c4 :: c5 :: ((A ++ x :: B).map g ++ X)) ++ Ls).Perm (g x :: c1 :: c2 :: c3 :: c4 :: c5 :: ((A ++ B).map g ++ X ++ Ls)) := (out_mid g [c1, c2, c3, c4, c5] A B x X).append_right Ls
theorem focP6 : ((c1 :: c2 :: c3 :: c4 :: c5 :: (Y ++ ((A ++ x :: B).map g ++ X))) ++ Ls).Perm (g x :: c1 :: c2 :: c3 :: c4 :: c5 :: (Y ++ ((A ++ B).map g ++ X) ++ Ls)) := by
  have h := (out_mid g ([c1, c2, c3, c4, c5] ++ Y) A B x X).append_right Ls
  simp only [List.append_assoc, List.cons_append, List.nil_append] at h ⊢
  exact h
/-- One set taken out of the free ones (with d: one chunk more ahead). -/
theorem foc5 (S : St w0 As w ((c1 :: c2 :: c3 :: c4 :: c5 :: ((A ++ x :: B).map g ++ X)) ++ Ls)) : St w0 As w (g x :: c1 :: c2 :: c3 :: c4 :: c5 :: ((A ++ B).map g ++ X ++ Ls)) := S.perm focP5
theorem unfoc5 (S : St w0 As w (g x :: c1 :: c2 :: c3 :: c4 :: c5 :: ((A ++ B).map g ++ X ++ Ls))) : St w0 As w ((c1 :: c2 :: c3 :: c4 :: c5 :: ((A ++ x :: B).map g ++ X)) ++ Ls) := S.perm focP5.symm
theorem foc5d (S : St w0 As w (d :: ((c1 :: c2 :: c3 :: c4 :: c5 :: ((A ++ x :: B).map g ++ X)) ++ Ls))) : St w0 As w (g x :: d :: c1 :: c2 :: c3 :: c4 :: c5 :: ((A ++ B).map g ++ X ++ Ls)) := S.perm ((focP5.cons d).trans (List.Perm.swap _ _ _))
theorem unfoc5d (S : St w0 As w (g x :: d :: c1 :: c2 :: c3 :: c4 :: c5 :: ((A ++ B).map g ++ X ++ Ls))) : St w0 As w (d :: ((c1 :: c2 :: c3 :: c4 :: c5 :: ((A ++ x :: B).map g ++ X)) ++ Ls)) := S.perm ((focP5.cons d).trans (List.Perm.swap _ _ _)).symm
/-- One set taken out of those that wait. -/
theorem foc6 (S : St w0 As w ((c1 :: c2 :: c3 :: c4 :: c5 :: (Y ++ ((A ++ x :: B).map g ++ X))) ++ Ls)) : St w0 As w (g x :: c1 :: c2 :: c3 :: c4 :: c5 :: (Y ++ ((A ++ B).map g ++ X) ++ Ls)) := S.perm focP6
theorem unfoc6 (S : St w0 As w (g x :: c1 :: c2 :: c3 :: c4 :: c5 :: (Y ++ ((A ++ B).map g ++ X) ++ Ls))) : St w0 As w ((c1 :: c2 :: c3 :: c4 :: c5 :: (Y ++ ((A ++ x :: B).map g ++ X))) ++ Ls) := S.perm focP6.symm
theorem foc6d (S : St w0 As w (d :: ((c1 :: c2 :: c3 :: c4 :: c5 :: (Y ++ ((A ++ x :: B).map g ++ X))) ++ Ls))) : St w0 As w (g x :: d :: c1 :: c2 :: c3 :: c4 :: c5 :: (Y ++ ((A ++ B).map g ++ X) ++ Ls)) := S.perm ((focP6.cons d).trans (List.Perm.swap _ _ _))
theorem unfoc6d (S : St w0 As w (g x :: d :: c1 :: c2 :: c3 :: c4 :: c5 :: (Y ++ ((A ++ B).map g ++ X) ++ Ls))) : St w0 As w (d :: ((c1 :: c2 :: c3 :: c4 :: c5 :: (Y ++ ((A ++ x :: B).map g ++ X))) ++ Ls)) := S.perm ((focP6.cons d).trans (List.Perm.swap _ _ _)).symm
end
theorem Av.Ok.lenF {V : Av} {a : Al} (h : V.Ok a) (ho : a.Ok) : V.F.length = a.sizes.length := by have := ho.nf; rw [h.ef, List.length_map] at this; exact this
theorem Av.Ok.lenW {V : Av} {a : Al} (h : V.Ok a) (ho : a.Ok) : V.W.length = a.sizes.length := by have := ho.nw; rw [h.ew, List.length_map] at this; exact this

theorem ahas_ret {p : Nat} {y : Al} {vf vw g : Value} {z1 : Option Addr} {z2 : Nat} (t : Int) {As : List Chunk} (hH : [(p, cel [.slice z1 y.sizes.length z2, vf, vw, g] 54)] ∈ As) (w0 : World) (H : Hp w0 As) :
    Ret Try.prog 22 #[ptr p, .int .i64 t] w0 fun u w' => u = .bool (y.has t) ∧ Trs w0 w' As As := by
  have S := St.begin H
  refine enter2 16 Try.func22 rfl rfl (by decide) ?_; intro a E
  refine wp_seq_k ?_; intro K hK
  refine region_list ?_
  refine list_pure E rfl rfl (by decide) (rn_assign E rfl rfl) ?_; clear E a; intro a E
  refine wpList_nil ?_
  refine then_k hK ?_; clear hK; clear K
  refine wp_seq_k ?_; intro K hK
  refine region_list ?_
  refine list_pure E rfl rfl (by decide) (rn_move E rfl rfl) ?_; clear E a; intro a E
  refine list_pure E rfl rfl (by decide) (rn_geq E rfl rfl rfl) ?_; clear E a; intro a E
  refine list_pure E rfl rfl (by decide) (rn_move E rfl rfl) ?_; clear E a; intro a E
  refine guard_split E (t := 7) rfl (fun hb7 => ?_) (fun hb7 => ?_)
  · have hb7n := hb7; replace hb7n := Nrm.nrm hb7n
    skip
    refine list_guard_yes E rfl rfl rfl rfl hb7 rfl (by decide) (rn_move E rfl rfl) ?_; clear E a; intro a E
    refine list_guard_yes E rfl rfl rfl rfl hb7 rfl (by decide) (rn_move E rfl rfl) ?_; clear E a; intro a E
    refine list_guard_yes E rfl rfl rfl rfl hb7 rfl (by decide) (rn_nilCheck E rfl rfl) ?_; clear E a; intro a E
    refine list_guard_yes E rfl rfl rfl rfl hb7 rfl (by decide) (by first | exact rn_fieldAddr0 (q := 0) E rfl rfl rfl | exact rn_fieldAddr (q := 0) E rfl rfl rfl) ?_; clear E a; intro a E
    refine list_guard_yes E rfl rfl rfl rfl hb7 rfl (by decide) (rn_load E rfl rfl rfl (S.stab.one hH) rfl) ?_; clear E a; intro a E
    refine list_guard_yes E rfl rfl rfl rfl hb7 rfl (by decide) (by first | exact rn_len E rfl rfl rfl | exact rn_len_str E rfl rfl rfl | exact rn_len_string E rfl rfl rfl) ?_; clear E a; intro a E
    refine list_guard_yes E rfl rfl rfl rfl hb7 rfl (by decide) (rn_lss E rfl rfl rfl) ?_; clear E a; intro a E
    refine list_pure E rfl rfl (by decide) (rn_pick_yes' E rfl rfl hb7 rfl) ?_; clear E a; intro a E
    refine list_pure E rfl rfl (by decide) (rn_assign E rfl rfl) ?_; clear E a; intro a E
    refine wpList_nil ?_
    refine then_k hK ?_; clear hK; clear K
    refine wp_ret ?_
    refine ret1 E rfl rfl ?_
    exact ⟨_, rfl, by rw [Value.bool.injEq, Bool.eq_iff_iff]; simp only [Al.has, decide_eq_true_eq]; omega, S.tr⟩
  · have hb7n := hb7; replace hb7n := Nrm.nrm hb7n
    skip
    refine list_guard_no E rfl rfl rfl rfl hb7 rfl (by decide) ?_; clear E a; intro a E
    refine list_guard_no E rfl rfl rfl rfl hb7 rfl (by decide) ?_; clear E a; intro a E
    refine list_guard_no E rfl rfl rfl rfl hb7 rfl (by decide) ?_; clear E a; intro a E
    refine list_guard_no E rfl rfl rfl rfl hb7 rfl (by decide) ?_; clear E a; intro a E
    refine list_guard_no E rfl rfl rfl rfl hb7 rfl (by decide) ?_; clear E a; intro a E
    refine list_guard_no E rfl rfl rfl rfl hb7 rfl (by decide) ?_; clear E a; intro a E
    refine list_guard_no E rfl rfl rfl rfl hb7 rfl (by decide) ?_; clear E a; intro a E
    refine list_pure E rfl rfl (by decide) (rn_pick_no' E rfl rfl hb7 rfl) ?_; clear E a; intro a E
    refine list_pure E rfl rfl (by decide) (rn_assign E rfl rfl) ?_; clear E a; intro a E
    refine wpList_nil ?_
    refine then_k hK ?_; clear hK; clear K
    refine wp_ret ?_
    refine ret1 E rfl rfl ?_
    exact ⟨_, rfl, by rw [Value.bool.injEq, Bool.eq_iff_iff]; simp only [Al.has, decide_eq_true_eq, Bool.false_eq_true, false_iff]; omega, S.tr⟩
theorem Av.Ok.vs_is {V : Av} {y : Al} (h : V.Ok y) : ∃ z1 z2, V.vs = .slice z1 y.sizes.length z2 := h.z.slice

theorem fr_mid {y : Al} {A B : List Sset} {f : Sset} (h : y.free = (A ++ f :: B).map (·.l)) : y.fr A.length = f.l := by
  unfold Al.fr; rw [h]; exact getD_mid (fun f : Sset => f.l) A B f []
theorem wt_mid {y : Al} {A B : List Sset} {f : Sset} (h : y.waits = (A ++ f :: B).map (·.l)) : y.wt A.length = f.l := by
  unfold Al.wt; rw [h]; exact getD_mid (fun f : Sset => f.l) A B f []

/-- Another set in the place of one. -/
theorem Av.Ok.putF {vs vf vw : Value} {Cz Cf Cw C2 : Chunk} {FA FB W : List Sset} {f : Sset} {G : List Gr} {r clock : Nat} {y : Al} {l : List Sp} (hV : Av.Ok ⟨vs, vf, vw, Cz, Cf, Cw, FA ++ f :: FB, W, G, r, clock⟩ y) (hC : SetC f.p l (manyL l) C2) :
    Av.Ok ⟨vs, vf, vw, Cz, Cf, Cw, FA ++ ⟨f.p, l, C2⟩ :: FB, W, G, r, clock⟩ (y.setF FA.length l) := by
  refine ⟨hV.z, by simpa using hV.f, hV.w, fun s hs => ?_, hV.ws, hV.gs, ?_, hV.ew, hV.eg, hV.me⟩
  · rcases List.mem_append.1 hs with hs | hs
    · exact hV.fs s (List.mem_append_left _ hs)
    · rcases List.mem_cons.1 hs with rfl | hs
      · exact hC
      · exact hV.fs s (List.mem_append_right _ (List.mem_cons_of_mem _ hs))
  · show y.free.set FA.length l = _
    rw [hV.ef]
    exact set_mid (fun s : Sset => s.l) FA FB f ⟨f.p, l, C2⟩
theorem Av.Ok.putW {vs vf vw : Value} {Cz Cf Cw C2 : Chunk} {FA FB F : List Sset} {f : Sset} {G : List Gr} {r clock : Nat} {y : Al} {l : List Sp} (hV : Av.Ok ⟨vs, vf, vw, Cz, Cf, Cw, F, FA ++ f :: FB, G, r, clock⟩ y) (hC : SetC f.p l (manyL l) C2) :
    Av.Ok ⟨vs, vf, vw, Cz, Cf, Cw, F, FA ++ ⟨f.p, l, C2⟩ :: FB, G, r, clock⟩ (y.setW FA.length l) := by
  refine ⟨hV.z, hV.f, by simpa using hV.w, hV.fs, fun s hs => ?_, hV.gs, hV.ef, ?_, hV.eg, hV.me⟩
  · rcases List.mem_append.1 hs with hs | hs
    · exact hV.ws s (List.mem_append_left _ hs)
    · rcases List.mem_cons.1 hs with rfl | hs
      · exact hC
      · exact hV.ws s (List.mem_append_right _ (List.mem_cons_of_mem _ hs))
  · show y.waits.set FA.length l = _
    rw [hV.ew]
    exact set_mid (fun s : Sset => s.l) FA FB f ⟨f.p, l, C2⟩

theorem aroom_ret (p : Nat) (y : Al) (t : Int) (ht : -9223372036854775808 ≤ t ∧ t ≤ 9223372036854775807) (A : Chunk) (hA : AlC p y A) (w0 : World) (H : Hp w0 [A]) :
    Ret Try.prog 13 #[ptr p, .int .i64 t] w0 fun u w' => u = .int .i64 (y.room t) ∧ Trs w0 w' [A] [A] := by
  have hA0 := hA
  obtain ⟨ho, ⟨vs, vf, vw, Cz, Cf, Cw, F, W, G, r, clock⟩, hV, rfl⟩ := hA
  have hl := hV.lenF ho
  simp only at hl
  obtain ⟨f1, f2, evf⟩ := hV.f.slice
  simp only at evf; subst evf
  obtain ⟨z1, z2, evz⟩ := hV.vs_is
  simp only at evz; subst evz
  have S := (St.begin H).openF (Ls := [])
  refine enter2 17 Try.func13 rfl rfl (by decide) ?_; intro a E
  refine wp_seq_k ?_; intro K hK
  refine region_list ?_
  refine list_pure E rfl rfl (by decide) (rn_assign E rfl rfl) ?_; clear E a; intro a E
  refine wpList_nil ?_
  refine then_k hK ?_; clear hK; clear K
  refine wp_seq_k ?_; intro K hK
  refine wp_seq_k ?_; intro K hK
  refine region_list ?_
  refine list_pure E rfl rfl (by decide) (rn_move E rfl rfl) ?_; clear E a; intro a E
  refine list_pure E rfl rfl (by decide) (rn_move E rfl rfl) ?_; clear E a; intro a E
  refine list_call E rfl rfl (by decide) rfl Try.func22 rfl (by kernel_rfl) rfl (ahas_ret t (List.mem_cons_self ..) _ S.hp) ?_
  rintro v7 w ⟨rfl, hT⟩; clear E a; intro a E
  have S := S.all hT
  refine list_pure E rfl rfl (by decide) (rn_not E rfl rfl) ?_; clear E a; intro a E
  refine wpList_nil ?_
  refine then_k hK ?_; clear hK; clear K
  refine if_bool E rfl (fun hb => ?_) (fun hb => ?_)
  · replace hb := Nrm.nrm hb
    have hh : y.has t = false := (by simpa using hb)
    refine wp_seq_k ?_; intro K hK
    refine region_list ?_
    refine list_pure E rfl rfl (by decide) (rn_assign E rfl rfl) ?_; clear E a; intro a E
    refine wpList_nil ?_
    refine then_k hK ?_; clear hK; clear K
    refine wp_ret ?_
    refine then_ret ?_; clear hK; clear K
    refine ret1 E rfl rfl ?_
    exact ⟨_, rfl, by simp [Al.room, hh], (St.closeF (Ls := []) S).tr⟩
  · replace hb := Nrm.nrm hb
    have hh : y.has t = true := (by simpa using hb)
    refine wp_skip ?_
    refine then_k hK ?_; clear hK; clear K
    refine wp_seq_k ?_; intro K hK
    have hh2 := hh
    simp only [Al.has, decide_eq_true_eq] at hh2
    obtain ⟨FA, f, FB, rfl, hfl⟩ := split_at (l := F) (i := t.toNat) (by omega)
    obtain rfl : t = FA.length := by omega
    obtain ⟨fg, fo, rfl⟩ := hV.f.rd.addr (by omega)
    have S := foc5 S
    refine region_list ?_
    refine list_pure E rfl rfl (by decide) (rn_move E rfl rfl) ?_; clear E a; intro a E
    refine list_pure E rfl rfl (by decide) (rn_nilCheck E rfl rfl) ?_; clear E a; intro a E
    refine list_pure E rfl rfl (by decide) (by first | exact rn_fieldAddr0 (q := 1) E rfl rfl rfl | exact rn_fieldAddr (q := 1) E rfl rfl rfl) ?_; clear E a; intro a E
    refine list_pure E rfl rfl (by decide) (by first | exact rn_load E rfl rfl rfl (S.get (by repeat (first | exact pk1 | apply pick_tail))) rfl | exact rn_loadc E rfl rfl rfl (by assumption)) ?_; clear E a; intro a E
    refine list_pure E rfl rfl (by decide) (rn_move E rfl rfl) ?_; clear E a; intro a E
    refine list_pure E rfl rfl (by decide) (by first | exact rn_indexAddr1 E rfl rfl rfl rfl rfl rfl (by omega) | exact rn_indexAddr E rfl rfl rfl rfl rfl rfl (by omega) | exact rn_indexAddr_array E rfl rfl rfl rfl rfl rfl (by omega)) ?_; clear E a; intro a E
    refine list_pure E rfl rfl (by decide) (rn_loadc E rfl rfl rfl (hV.f.rd.mid (S.stab.at (by repeat (first | exact mm1 | assumption | apply List.Mem.tail))))) ?_; clear E a; intro a E
    refine list_call E rfl rfl (by decide) rfl Try.func29 rfl (by kernel_rfl) rfl (many_ret f.p f.l _ f.C _ (hV.fs f (by simp)) (S.hp.sel (sel_cons (by repeat (first | exact pk1 | apply pick_tail)) (sel_nil _)))) ?_
    rintro v16 w ⟨rfl, hT⟩; clear E a; intro a E
    have S := S.call1 (sel_cons (by repeat (first | exact pk1 | apply pick_tail)) (sel_nil _)) hT
    refine list_pure E rfl rfl (by decide) (rn_assign E rfl rfl) ?_; clear E a; intro a E
    refine wpList_nil ?_
    refine then_k hK ?_; clear hK; clear K
    refine wp_ret ?_
    refine ret1 E rfl rfl ?_
    exact ⟨_, rfl, by simp only [Al.room, hh, if_true, Int.toNat_natCast, fr_mid hV.ef], (St.closeF (Ls := []) (unfoc5 S)).tr⟩
end Go.Proofs.Ytenhebjhoicpjaa
