/-
  Allocators: room let go.
-/
import Derived.Test.YtenhebjhoicpjaaAllJ
namespace Go.Sl
theorem addBy_mid {k : Int} {l : List Pl} {p : Pl} {B : List (Int × List Pl)} : ∀ {A : List (Int × List Pl)}, (∀ z ∈ A, z.1 ≠ k) → addBy (A ++ (k, l) :: B) k p = A ++ (k, l ++ [p]) :: B
  | [], _ => by simp [addBy]
  | (j, m) :: A, h => by
    have h1 : j ≠ k := h (j, m) (List.mem_cons_self ..)
    rw [List.cons_append, addBy, if_neg h1, addBy_mid fun z hz => h z (List.mem_cons_of_mem _ hz)]; rfl
theorem gr_split {L : List Gr} {q : Int} (h : ∃ m ∈ L, m.key = q) : ∃ A m B, L = A ++ m :: B ∧ m.key = q ∧ ∀ z ∈ A, z.key ≠ q := by
  induction L with
  | nil => obtain ⟨m, hm, _⟩ := h; cases hm
  | cons x r ih =>
    by_cases c : x.key = q
    · exact ⟨[], x, r, rfl, c, by simp⟩
    · obtain ⟨m, hm, hq⟩ := h
      rcases List.mem_cons.1 hm with rfl | hm
      · exact absurd hq c
      · obtain ⟨A, m', B, rfl, h2, h3⟩ := ih ⟨m, hm, hq⟩
        exact ⟨x :: A, m', B, rfl, h2, fun z hz => by
          rcases List.mem_cons.1 hz with rfl | hz
          · exact c
          · exact h3 z hz⟩
theorem look_is {G GA GB : List Gr} {g : Gr} (hG : G = GA ++ g :: GB) (hk : ∀ z ∈ GA, z.key ≠ g.key) : Instr.findNow (.int .u64) (.int .u64 g.key) (mes .u64 (G.map Gr.me)).toList 0 = some (some (GA.length, g.val)) := by
  have h := find_is (k := .u64) (m := g.me) (A := GA.map Gr.me) (B := GB.map Gr.me) 0 (fun z hz => by obtain ⟨q, hq, rfl⟩ := List.mem_map.1 hz; exact hk q hq)
  rw [Nat.zero_add, List.length_map] at h
  rw [hG, List.map_append, List.map_cons]
  exact h
theorem look_is2 {GA GB : List Gr} {g : Gr} (hk : ∀ z ∈ GA, z.key ≠ g.key) : Instr.findNow (.int .u64) (.int .u64 g.key) (mes .u64 (GA.map Gr.me ++ g.me :: GB.map Gr.me)).toList 0 = some (some (GA.length, g.val)) := by
  have h := look_is (G := GA ++ g :: GB) rfl hk
  rw [List.map_append, List.map_cons] at h
  exact h
theorem look_not {G : List Gr} {k : Int} (h : ∀ g ∈ G, g.key ≠ k) : Instr.findNow (.int .u64) (.int .u64 k) (mes .u64 (G.map Gr.me)).toList 0 = some none :=
  find_not (k := .u64) (L := G.map Gr.me) 0 (fun z hz => by obtain ⟨q, hq, rfl⟩ := List.mem_map.1 hz; exact h q hq)
end Go.Sl
namespace Go.Proofs.Ytenhebjhoicpjaa
open Go.Sl
set_option maxRecDepth 10000
section
variable {V : Av} {p : Nat} {GA GB : List Gr} {g g' : Gr} {w0 w : World} {As Ls : List Chunk} {L : List Me} {cl : Nat}
abbrev Av.restG (V : Av) (p : Nat) (L : List Me) (cl : Nat) (A B : List Gr) : List Chunk := [(p, cel [V.vs, V.vf, V.vw, .map (some V.r)] 54)] :: V.Cz :: V.Cf :: V.Cw :: [(V.r, .map (mes .u64 L) cl)] :: (V.F.map (·.C) ++ (V.W.map (·.C) ++ (A ++ B).map (·.C)))
theorem permG (h : Chunk) {c2 c3 c4 c5 : Chunk} {X Y : List Chunk} : ((h :: c2 :: c3 :: c4 :: c5 :: (X ++ (Y ++ (GA ++ g :: GB).map (·.C)))) ++ Ls).Perm (g.C :: ((h :: c2 :: c3 :: c4 :: c5 :: (X ++ (Y ++ (GA ++ GB).map (·.C)))) ++ Ls)) := by
  have h := (out_mid (fun s : Gr => s.C) ([h, c2, c3, c4, c5] ++ X ++ Y) GA GB g []).append_right Ls
  simp only [List.append_assoc, List.cons_append, List.nil_append, List.append_nil] at h ⊢
  exact h
theorem focG (Ds : List Chunk) (hG : V.G = GA ++ g :: GB) (S : St w0 As w (Ds ++ (V.chs p ++ Ls))) : St w0 As w (g.C :: (Ds ++ (V.restG p (GA.map Gr.me ++ g.me :: GB.map Gr.me) V.clock GA GB ++ Ls))) := by
  refine S.perm (List.Perm.trans (List.Perm.append_left Ds ?_) List.perm_middle)
  show (_ :: V.Cz :: V.Cf :: V.Cw :: [(V.r, .map (mes .u64 (V.G.map Gr.me)) V.clock)] :: (_ ++ (_ ++ V.G.map (·.C))) ++ Ls).Perm _
  rw [hG, List.map_append (f := Gr.me), List.map_cons]
  exact permG _
theorem unfocG (Ds : List Chunk) (S : St w0 As w (g'.C :: (Ds ++ (V.restG p (GA.map Gr.me ++ g'.me :: GB.map Gr.me) cl GA GB ++ Ls)))) : St w0 As w (Ds ++ (Av.chs { V with G := GA ++ g' :: GB, clock := cl } p ++ Ls)) := by
  refine S.perm (List.Perm.trans (List.Perm.append_left Ds ?_) List.perm_middle).symm
  show (_ :: V.Cz :: V.Cf :: V.Cw :: [(V.r, .map (mes .u64 ((GA ++ g' :: GB).map Gr.me)) cl)] :: (_ ++ (_ ++ (GA ++ g' :: GB).map (·.C))) ++ Ls).Perm _
  rw [List.map_append (f := Gr.me), List.map_cons]
  exact permG _
end

theorem snocG {V : Av} {p : Nat} {g' : Gr} {w0 w : World} {As Ls : List Chunk} {cl : Nat} (Ds : List Chunk) (S : St w0 As w (g'.C :: (Ds ++ (([(p, cel [V.vs, V.vf, V.vw, .map (some V.r)] 54)] :: V.Cz :: V.Cf :: V.Cw :: [(V.r, .map (mes .u64 (V.G.map Gr.me ++ [g'.me])) cl)] :: (V.F.map (·.C) ++ (V.W.map (·.C) ++ V.G.map (·.C)))) ++ Ls)))) : St w0 As w (Ds ++ (Av.chs { V with G := V.G ++ [g'], clock := cl } p ++ Ls)) := by
  refine unfocG (V := V) (GA := V.G) (GB := []) (g' := g') (cl := cl) Ds ?_
  unfold Av.restG
  rw [List.append_nil, List.map_nil]
  exact S
theorem Av.Ok.modG {V : Av} {y : Al} {GA GB : List Gr} {g : Gr} {q : Pl} {v : Value} {C : Chunk} (h : V.Ok y) (hG : V.G = GA ++ g :: GB) (hk : ∀ z ∈ GA, z.key ≠ g.key) (hC : grOk ⟨g.key, g.ps ++ [q], v, g.born, C⟩) :
    Av.Ok { V with G := GA ++ ⟨g.key, g.ps ++ [q], v, g.born, C⟩ :: GB, clock := V.clock } { y with by_ := addBy y.by_ g.key q } := by
  refine ⟨h.z, h.f, h.w, h.fs, h.ws, fun s hs => ?_, h.ef, h.ew, ?_, ?_⟩
  · rcases List.mem_append.1 hs with hs | hs
    · exact h.gs s (by rw [hG]; exact List.mem_append_left _ hs)
    · rcases List.mem_cons.1 hs with rfl | hs
      · exact hC
      · exact h.gs s (by rw [hG]; exact List.mem_append_right _ (List.mem_cons_of_mem _ hs))
  · show addBy y.by_ g.key q = _
    rw [h.eg, hG, List.map_append, List.map_cons, List.map_append, List.map_cons]
    exact addBy_mid fun z hz => by obtain ⟨u, hu, rfl⟩ := List.mem_map.1 hz; exact hk u hu
  · have h9 := h.me
    rw [hG, List.map_append, List.map_cons] at h9
    show MeOk ((GA ++ _ :: GB).map Gr.me) V.clock
    rw [List.map_append, List.map_cons]
    exact meOk_val (v := v) h9
theorem Av.Ok.addG {V : Av} {y : Al} {k : Int} {q : Pl} {v : Value} {C : Chunk} (h : V.Ok y) (hk : ∀ g ∈ V.G, g.key ≠ k) (hC : grOk ⟨k, [q], v, V.clock, C⟩) :
    Av.Ok { V with G := V.G ++ [⟨k, [q], v, V.clock, C⟩], clock := V.clock + 1 } { y with by_ := addBy y.by_ k q } := by
  refine ⟨h.z, h.f, h.w, h.fs, h.ws, fun s hs => ?_, h.ef, h.ew, ?_, ?_⟩
  · rcases List.mem_append.1 hs with hs | hs
    · exact h.gs s hs
    · rw [List.mem_singleton.1 hs]; exact hC
  · show addBy y.by_ k q = _
    rw [h.eg, List.map_append, addBy_new fun z hz => by obtain ⟨u, hu, rfl⟩ := List.mem_map.1 hz; exact hk u hu]
    rfl
  · show MeOk ((V.G ++ [_]).map Gr.me) _
    rw [List.map_append]
    exact meOk_push h.me rfl fun z hz => by obtain ⟨u, hu, rfl⟩ := List.mem_map.1 hz; exact hk u hu
theorem rd1s (g : Nat) (a b c : Int) (T : TypeId) : Rd [(g, cel [.int .i64 a, .int .i64 b, .int .i64 c] T)] 3 (.slice (some ⟨g, 0, none⟩) 1 1) 1 [.int .i64 a, .int .i64 b, .int .i64 c] := rd_cells rfl (by simp [Value.oneCell']) (by omega) 1

theorem afree_ret (p : Nat) (y : Al) (q : Pl) (txg : Int) (hx : 0 ≤ txg ∧ txg < 18446744073709551616) (hby : ∀ g ∈ y.by_, g.2.length ≤ 1000000000000) (A : Chunk) (hA : AlC p y A) (w0 : World) (H : Hp w0 [A]) :
    Ret Try.prog 10 #[ptr p, q.agg, .int .u64 txg] w0 fun u w' => u = .int .i64 (y.letgo q txg).2 ∧ ∃ A', AlC p (y.letgo q txg).1 A' ∧ Trs w0 w' [A] [A'] := by
  have S := St.begin H
  have hA0 := hA
  obtain ⟨top, sp⟩ := q
  obtain ⟨ho, V, hV, rfl⟩ := hA
  have hlW := hV.lenW ho
  obtain ⟨f1, f2, evw⟩ := hV.w.slice
  have hVw := hV.w
  rw [evw] at hVw
  have hok := Al.letgo_ok ho ⟨top, sp⟩ hx
  refine enter3 36 Try.func10 rfl rfl (by decide) ?_; intro a E
  refine wp_seq_k ?_; intro K hK
  refine region_list ?_
  refine list_wp rfl (wp_box E S rfl rfl (by decide) rfl rfl ?_); clear E S a; intro a w b4 E S
  refine list_pure E rfl rfl (by decide) (rn_assign E rfl rfl) ?_; clear E a; intro a E
  refine wpList_nil ?_
  refine then_k hK ?_; clear hK; clear K
  refine wp_seq_k ?_; intro K hK
  refine wp_seq_k ?_; intro K hK
  refine region_list ?_
  refine list_pure E rfl rfl (by decide) (rn_move E rfl rfl) ?_; clear E a; intro a E
  refine list_pure E rfl rfl (by decide) (rn_load_blk (vs := [_, _, _]) E rfl rfl rfl (S.get (by repeat (first | exact pk1 | apply pick_tail))) rfl rfl) ?_; clear E a; intro a E
  refine list_call E rfl rfl (by decide) rfl Try.func31 rfl (by kernel_rfl) rfl (aheld_ret p y ⟨top, sp⟩ _ hA0 _ (S.hp.sel (sel_cons (by repeat (first | exact pk1 | apply pick_tail)) (sel_nil _)))) ?_
  rintro v9 w ⟨rfl, hT⟩; clear E a; intro a E
  have S := S.call1 (sel_cons (by repeat (first | exact pk1 | apply pick_tail)) (sel_nil _)) hT
  refine list_pure E rfl rfl (by decide) (rn_not E rfl rfl) ?_; clear E a; intro a E
  refine wpList_nil ?_
  refine then_k hK ?_; clear hK; clear K
  refine if_bool E rfl (fun hb => ?_) (fun hb => ?_)
  · replace hb := Nrm.nrm hb
    have hh : y.held ⟨top, sp⟩ = false := (by simpa using hb)
    refine wp_seq_k ?_; intro K hK
    refine region_list ?_
    refine list_pure E rfl rfl (by decide) (rn_assign E rfl rfl) ?_; clear E a; intro a E
    refine wpList_nil ?_
    refine then_k hK ?_; clear hK; clear K
    refine wp_ret ?_
    refine then_ret ?_; clear hK; clear K
    refine ret1 E rfl rfl ?_
    have e : y.letgo ⟨top, sp⟩ txg = (y, 110) := by simp [Al.letgo, hh]
    exact ⟨_, rfl, by rw [e], _, by rw [e]; exact hA0, (S.only (Bs := [_]) (sel_cons (by repeat (first | exact pk1 | apply pick_tail)) (sel_nil _))).tr⟩
  · replace hb := Nrm.nrm hb
    have hh : y.held ⟨top, sp⟩ = true := (by simpa using hb)
    refine wp_skip ?_
    refine then_k hK ?_; clear hK; clear K
    refine wp_seq_k ?_; intro K hK
    have hh2 := Al.held_has hh
    simp only [Al.has, decide_eq_true_eq] at hh2
    obtain ⟨t, rfl⟩ : ∃ t : Nat, top = t := ⟨top.toNat, by omega⟩
    obtain ⟨FA, f, FB, hF, hfl⟩ := split_at (l := V.W) (i := t) (by omega)
    obtain ⟨fb, fo, rfl⟩ := hVw.rd.addr (by omega)
    have hfa : y.wt t = f.l := by rw [← hfl]; exact wt_mid (hV.ew.trans (by rw [hF]))
    have hfm : f ∈ V.W := by rw [hF]; simp
    have S := focW [_] hF (St.opn [_] (S.front1 (A := [(b4, _)]) (by repeat (first | exact pk1 | apply pick_tail))))
    have e : y.letgo ⟨t, sp⟩ txg = ({ y.setW t (addS f.l sp) with by_ := addBy y.by_ txg ⟨t, sp⟩ }, 0) := by simp only [Al.letgo, hh, if_true, Int.toNat_natCast, hfa]
    refine region_mix S (.ofL [(0, 0), (1, 0), (2, 0), (3, 0), (4, 0), (5, 0), (6, 0), (7, 0), (8, 0), (9, 0), (10, 3)]) [hdc p V.vs V.vf V.vw V.r, V.Cw, [(b4, cel [.int .i64 t, .int .i64 sp.at_, .int .i64 sp.many] 33)]] (fun h => h.sub (by first | (simp; done) | (simp +contextual; done) | (simp [*]; done))) (by kernel_rfl) (by kernel_rfl) ?_
    clear S; intro w S
    refine mix_pure E rfl rfl rfl (by decide) (fun w h => rn_move E rfl rfl) ?_; clear E a; intro a E
    refine mix_pure E rfl rfl rfl (by decide) (fun w h => rn_nilCheck E rfl rfl) ?_; clear E a; intro a E
    refine mix_pure E rfl rfl rfl (by decide) (fun w h => by first | exact rn_fieldAddr0 (q := 2) E rfl rfl rfl | exact rn_fieldAddr (q := 2) E rfl rfl rfl) ?_; clear E a; intro a E
    refine mix_pure E rfl rfl rfl (by decide) (fun w h => by first | exact rn_load E rfl rfl rfl (h.one (by repeat (first | exact mm1 | assumption | apply List.Mem.tail))) rfl | exact rn_loadc E rfl rfl rfl (by assumption)) ?_; clear E a; intro a E
    rw [evw] at E
    refine mix_pure E rfl rfl rfl (by decide) (fun w h => by first | exact rn_fieldAddr0 (q := 0) E rfl rfl rfl | exact rn_fieldAddr (q := 0) E rfl rfl rfl) ?_; clear E a; intro a E
    refine mix_pure E rfl rfl rfl (by decide) (fun w h => by first | exact rn_load E rfl rfl rfl (h.one (by repeat (first | exact mm1 | assumption | apply List.Mem.tail))) rfl | exact rn_loadc E rfl rfl rfl (by assumption)) ?_; clear E a; intro a E
    refine mix_pure E rfl rfl rfl (by decide) (fun w h => by first | exact rn_indexAddr1 E rfl rfl rfl rfl rfl rfl (by omega) | exact rn_indexAddr E rfl rfl rfl rfl rfl rfl (by omega) | exact rn_indexAddr_array E rfl rfl rfl rfl rfl rfl (by omega)) ?_; clear E a; intro a E
    refine mix_pure E rfl rfl rfl (by decide) (fun w h => rn_loadc E rfl rfl rfl ((by have h9 := hVw.rd; rw [hF] at h9; exact h9.midi hfl (h.at (by repeat (first | exact mm1 | assumption | apply List.Mem.tail)))))) ?_; clear E a; intro a E
    refine mix_pure E rfl rfl rfl (by decide) (fun w h => by first | exact rn_fieldAddr0 (q := 1) E rfl rfl rfl | exact rn_fieldAddr (q := 1) E rfl rfl rfl) ?_; clear E a; intro a E
    refine mix_pure E rfl rfl rfl (by decide) (fun w h => rn_load_blk (vs := [_, _]) E rfl rfl rfl (h.one (by repeat (first | exact mm1 | assumption | apply List.Mem.tail))) rfl rfl) ?_; clear E a; intro a E
    refine mix_call3 E rfl rfl rfl (by decide) rfl Try.func32 rfl (by kernel_rfl) rfl (add_ret f.p f.l sp f.C _ (hV.ws f hfm) (hfa ▸ ho.wtAt t) (S.hp.sel (sel_cons (by repeat (first | exact pk1 | apply pick_tail)) (sel_nil _)))) ?_
    rintro v21 w ⟨rfl, C2, hC2, hT⟩; clear E a; intro a E
    have S := S.call1 (sel_cons (by repeat (first | exact pk1 | apply pick_tail)) (sel_nil _)) hT
    refine mix_nil ?_
    refine then_k hK ?_; clear hK; clear K
    refine wp_seq_k ?_; intro K hK
    have hV2 := hV.newW hF hC2
    rw [hfl] at hV2
    have S := unfocW (V := V) (p := p) (FA := FA) (FB := FB) (f' := ⟨f.p, addS f.l sp, C2⟩) [_] S
    obtain ⟨V2, hV2e⟩ : ∃ V2 : Av, V2 = { V with W := FA ++ ⟨f.p, addS f.l sp, C2⟩ :: FB } := ⟨_, rfl⟩
    rw [← hV2e] at hV2 S
    refine region_mix S (.cons (0, 0) (.cons (1, 0) (.cons (2, 0) (.cons (3, 0) (.cons (4, 0) (.cons (5, 0) (.cons (6, 0) (.cons (7, 0) (.cons (8, 0) (.cons (9, 0) (.cons (11, 0) (.fork 10 (.ofL [(12, 1), (13, 1), (14, 3)]) 12 (.ofL [(10, 1), (13, 1), (14, 3)]))))))))))))) [hdc p V2.vs V2.vf V2.vw V2.r, [(b4, cel [.int .i64 t, .int .i64 sp.at_, .int .i64 sp.many] 33)]] (fun h => h.sub (by first | (simp; done) | (simp +contextual; done) | (simp [*]; done))) (by kernel_rfl) (by kernel_rfl) ?_
    clear S; intro w S
    by_cases hkey : ∃ g ∈ V2.G, g.key = txg
    · skip
      obtain ⟨GA, g, GB, hG, rfl, hgk⟩ := gr_split hkey; have S := focG [_] hG S; have hgl : g.ps.length ≤ 1000000000000 := (by have h9 := hV2.eg; exact hby (g.key, g.ps) (by show _ ∈ (y.setW t (addS f.l sp)).by_; rw [h9, hG]; exact List.mem_map.2 ⟨g, by simp, rfl⟩)); have hgo : Buf g.C 33 3 g.val g.ps.length (g.ps.flatMap Pl.lay) := hV2.gs g (by rw [hG]; simp)
      refine mix_pure E rfl rfl rfl (by decide) (fun w h => rn_move E rfl rfl) ?_; clear E a; intro a E
      refine mix_pure E rfl rfl rfl (by decide) (fun w h => rn_nilCheck E rfl rfl) ?_; clear E a; intro a E
      refine mix_pure E rfl rfl rfl (by decide) (fun w h => by first | exact rn_fieldAddr0 (q := 3) E rfl rfl rfl | exact rn_fieldAddr (q := 3) E rfl rfl rfl) ?_; clear E a; intro a E
      refine mix_pure E rfl rfl rfl (by decide) (fun w h => by first | exact rn_load E rfl rfl rfl (h.one (by repeat (first | exact mm1 | assumption | apply List.Mem.tail))) rfl | exact rn_loadc E rfl rfl rfl (by assumption)) ?_; clear E a; intro a E
      refine mix_pure E rfl rfl rfl (by decide) (fun w h => rn_move E rfl rfl) ?_; clear E a; intro a E
      refine mix_pure E rfl rfl rfl (by decide) (fun w h => rn_move E rfl rfl) ?_; clear E a; intro a E
      refine mix_pure E rfl rfl rfl (by decide) (fun w h => rn_nilCheck E rfl rfl) ?_; clear E a; intro a E
      refine mix_pure E rfl rfl rfl (by decide) (fun w h => by first | exact rn_fieldAddr0 (q := 3) E rfl rfl rfl | exact rn_fieldAddr (q := 3) E rfl rfl rfl) ?_; clear E a; intro a E
      refine mix_pure E rfl rfl rfl (by decide) (fun w h => by first | exact rn_load E rfl rfl rfl (h.one (by repeat (first | exact mm1 | assumption | apply List.Mem.tail))) rfl | exact rn_loadc E rfl rfl rfl (by assumption)) ?_; clear E a; intro a E
      refine mix_pure E rfl rfl rfl (by decide) (fun w h => rn_move E rfl rfl) ?_; clear E a; intro a E
      refine mix_pure E rfl rfl rfl (by decide) (fun w h => rn_load_blk (vs := [_, _, _]) E rfl rfl rfl (h.one (by repeat (first | exact mm1 | assumption | apply List.Mem.tail))) rfl rfl) ?_; clear E a; intro a E
      refine ⟨?_, ?_⟩
      · skip
        refine mix_act rfl rfl (wp_take E (rn_lookup1 (v := g.val) E rfl rfl rfl rfl rfl (S.get (by repeat (first | exact pk1 | apply pick_tail))) (look_is2 hgk)) rfl (by decide) ?_); clear E a; intro a E; refine ⟨S.stab.sub (by first | (simp; done) | (simp +contextual; done) | (simp [*]; done)), ?_⟩
        refine mix_act rfl rfl (wp_bslice (cells := [_, _, _]) E S rfl rfl (by decide) rfl rfl rfl rfl rfl (by decide) rfl ?_); clear E S a; intro a w b34 E S; refine ⟨S.stab.sub (by first | (simp; done) | (simp +contextual; done) | (simp [*]; done)), ?_⟩
        refine mix_act rfl rfl (wp_append (by' := 24) E S rfl rfl (by decide) rfl rfl hgo (by repeat (first | exact pk1 | apply pick_tail)) ((rd1s _ _ _ _ _).src (S.stab.at (by repeat (first | exact mm1 | assumption | apply List.Mem.tail))) rfl) rfl rfl rfl rfl rfl rfl (by simp only [maxLen]; omega) (by omega) ?_); clear E S a; intro a w v35 C35 E S hB35; refine ⟨S.stab.sub (by first | (simp; done) | (simp +contextual; done) | (simp [*]; done)), ?_⟩
        refine mix_last rfl rfl (wp_mapMod E S rfl rfl rfl rfl rfl rfl rfl (by repeat (first | exact pk1 | apply pick_tail)) (fun z hz => by obtain ⟨u, hu, rfl⟩ := List.mem_map.1 hz; exact hgk u hu) ?_); clear E S a; intro a w E S
        refine mix_nil ?_
        refine then_k hK ?_; clear hK; clear K
        refine wp_seq_k ?_; intro K hK
        replace E := E.keep (e' := [(6, _)]) (keep_cons rfl (keep_nil))
        refine region_list ?_
        refine list_pure E rfl rfl (by decide) (rn_assign E rfl rfl) ?_; clear E a; intro a E
        refine wpList_nil ?_
        refine then_k hK ?_; clear hK; clear K
        refine wp_ret ?_
        refine ret1 E rfl rfl ?_
        have hV3 := hV2.modG (q := ⟨t, sp⟩) (v := v35) (C := C35) hG hgk (by unfold grOk; simpa [Pl.lay] using hB35)
        have S := St.cls [_, _] (unfocG (V := V2) (p := p) (GA := GA) (GB := GB) (g' := ⟨g.key, g.ps ++ [⟨t, sp⟩], v35, g.born, C35⟩) (cl := V2.clock) [_, _] ((S.front5 (A := [(p, _)]) (B := V2.Cz) (C := V2.Cf) (D := V2.Cw) (F := [(V2.r, _)]) (by repeat (first | exact pk1 | apply pick_tail)) (by repeat (first | exact pk1 | apply pick_tail)) (by repeat (first | exact pk1 | apply pick_tail)) (by repeat (first | exact pk1 | apply pick_tail)) (by repeat (first | exact pk1 | apply pick_tail))).front3 (A := C35) (B := [(b34, _)]) (C := [(b4, _)]) (by repeat (first | exact pk1 | apply pick_tail)) (by repeat (first | exact pk1 | apply pick_tail)) (by repeat (first | exact pk1 | apply pick_tail))))
        rw [e] at hok ⊢
        exact ⟨_, rfl, rfl, _, ⟨hok, _, hV3, rfl⟩, (S.only (Bs := [_]) (sel_cons (by repeat (first | exact pk1 | apply pick_tail)) (sel_nil _))).tr⟩
      · skip
        refine mix_act rfl rfl (wp_bslice (cells := [_, _, _]) E S rfl rfl (by decide) rfl rfl rfl rfl rfl (by decide) rfl ?_); clear E S a; intro a w b34 E S; refine ⟨S.stab.sub (by first | (simp; done) | (simp +contextual; done) | (simp [*]; done)), ?_⟩
        refine mix_act rfl rfl (wp_take E (rn_lookup1 (v := g.val) E rfl rfl rfl rfl rfl (S.get (by repeat (first | exact pk1 | apply pick_tail))) (look_is2 hgk)) rfl (by decide) ?_); clear E a; intro a E; refine ⟨S.stab.sub (by first | (simp; done) | (simp +contextual; done) | (simp [*]; done)), ?_⟩
        refine mix_act rfl rfl (wp_append (by' := 24) E S rfl rfl (by decide) rfl rfl hgo (by repeat (first | exact pk1 | apply pick_tail)) ((rd1s _ _ _ _ _).src (S.stab.at (by repeat (first | exact mm1 | assumption | apply List.Mem.tail))) rfl) rfl rfl rfl rfl rfl rfl (by simp only [maxLen]; omega) (by omega) ?_); clear E S a; intro a w v35 C35 E S hB35; refine ⟨S.stab.sub (by first | (simp; done) | (simp +contextual; done) | (simp [*]; done)), ?_⟩
        refine mix_last rfl rfl (wp_mapMod E S rfl rfl rfl rfl rfl rfl rfl (by repeat (first | exact pk1 | apply pick_tail)) (fun z hz => by obtain ⟨u, hu, rfl⟩ := List.mem_map.1 hz; exact hgk u hu) ?_); clear E S a; intro a w E S
        refine mix_nil ?_
        refine then_k hK ?_; clear hK; clear K
        refine wp_seq_k ?_; intro K hK
        replace E := E.keep (e' := [(6, _)]) (keep_cons rfl (keep_nil))
        refine region_list ?_
        refine list_pure E rfl rfl (by decide) (rn_assign E rfl rfl) ?_; clear E a; intro a E
        refine wpList_nil ?_
        refine then_k hK ?_; clear hK; clear K
        refine wp_ret ?_
        refine ret1 E rfl rfl ?_
        have hV3 := hV2.modG (q := ⟨t, sp⟩) (v := v35) (C := C35) hG hgk (by unfold grOk; simpa [Pl.lay] using hB35)
        have S := St.cls [_, _] (unfocG (V := V2) (p := p) (GA := GA) (GB := GB) (g' := ⟨g.key, g.ps ++ [⟨t, sp⟩], v35, g.born, C35⟩) (cl := V2.clock) [_, _] ((S.front5 (A := [(p, _)]) (B := V2.Cz) (C := V2.Cf) (D := V2.Cw) (F := [(V2.r, _)]) (by repeat (first | exact pk1 | apply pick_tail)) (by repeat (first | exact pk1 | apply pick_tail)) (by repeat (first | exact pk1 | apply pick_tail)) (by repeat (first | exact pk1 | apply pick_tail)) (by repeat (first | exact pk1 | apply pick_tail))).front3 (A := C35) (B := [(b34, _)]) (C := [(b4, _)]) (by repeat (first | exact pk1 | apply pick_tail)) (by repeat (first | exact pk1 | apply pick_tail)) (by repeat (first | exact pk1 | apply pick_tail))))
        rw [e] at hok ⊢
        exact ⟨_, rfl, rfl, _, ⟨hok, _, hV3, rfl⟩, (S.only (Bs := [_]) (sel_cons (by repeat (first | exact pk1 | apply pick_tail)) (sel_nil _))).tr⟩
    · skip
      have hnk : ∀ g ∈ V2.G, g.key ≠ txg := (fun g hg hq => hkey ⟨g, hg, hq⟩); have S := S.addNil
      refine mix_pure E rfl rfl rfl (by decide) (fun w h => rn_move E rfl rfl) ?_; clear E a; intro a E
      refine mix_pure E rfl rfl rfl (by decide) (fun w h => rn_nilCheck E rfl rfl) ?_; clear E a; intro a E
      refine mix_pure E rfl rfl rfl (by decide) (fun w h => by first | exact rn_fieldAddr0 (q := 3) E rfl rfl rfl | exact rn_fieldAddr (q := 3) E rfl rfl rfl) ?_; clear E a; intro a E
      refine mix_pure E rfl rfl rfl (by decide) (fun w h => by first | exact rn_load E rfl rfl rfl (h.one (by repeat (first | exact mm1 | assumption | apply List.Mem.tail))) rfl | exact rn_loadc E rfl rfl rfl (by assumption)) ?_; clear E a; intro a E
      refine mix_pure E rfl rfl rfl (by decide) (fun w h => rn_move E rfl rfl) ?_; clear E a; intro a E
      refine mix_pure E rfl rfl rfl (by decide) (fun w h => rn_move E rfl rfl) ?_; clear E a; intro a E
      refine mix_pure E rfl rfl rfl (by decide) (fun w h => rn_nilCheck E rfl rfl) ?_; clear E a; intro a E
      refine mix_pure E rfl rfl rfl (by decide) (fun w h => by first | exact rn_fieldAddr0 (q := 3) E rfl rfl rfl | exact rn_fieldAddr (q := 3) E rfl rfl rfl) ?_; clear E a; intro a E
      refine mix_pure E rfl rfl rfl (by decide) (fun w h => by first | exact rn_load E rfl rfl rfl (h.one (by repeat (first | exact mm1 | assumption | apply List.Mem.tail))) rfl | exact rn_loadc E rfl rfl rfl (by assumption)) ?_; clear E a; intro a E
      refine mix_pure E rfl rfl rfl (by decide) (fun w h => rn_move E rfl rfl) ?_; clear E a; intro a E
      refine mix_pure E rfl rfl rfl (by decide) (fun w h => rn_load_blk (vs := [_, _, _]) E rfl rfl rfl (h.one (by repeat (first | exact mm1 | assumption | apply List.Mem.tail))) rfl rfl) ?_; clear E a; intro a E
      refine ⟨?_, ?_⟩
      · skip
        refine mix_act rfl rfl (wp_take E (rn_lookup1_not (v := .slice none 0 0) E rfl rfl rfl rfl rfl rfl rfl (S.get (by repeat (first | exact pk1 | apply pick_tail))) (look_not hnk)) rfl (by decide) ?_); clear E a; intro a E; refine ⟨S.stab.sub (by first | (simp; done) | (simp +contextual; done) | (simp [*]; done)), ?_⟩
        refine mix_act rfl rfl (wp_bslice (cells := [_, _, _]) E S rfl rfl (by decide) rfl rfl rfl rfl rfl (by decide) rfl ?_); clear E S a; intro a w b34 E S; refine ⟨S.stab.sub (by first | (simp; done) | (simp +contextual; done) | (simp [*]; done)), ?_⟩
        refine mix_act rfl rfl (wp_append (by' := 24) E S rfl rfl (by decide) rfl rfl (Buf.nil _ _) (by repeat (first | exact pk1 | apply pick_tail)) ((rd1s _ _ _ _ _).src (S.stab.at (by repeat (first | exact mm1 | assumption | apply List.Mem.tail))) rfl) rfl rfl rfl rfl rfl rfl (by simp only [maxLen]; omega) (by omega) ?_); clear E S a; intro a w v35 C35 E S hB35; refine ⟨S.stab.sub (by first | (simp; done) | (simp +contextual; done) | (simp [*]; done)), ?_⟩
        refine mix_last rfl rfl (wp_mapSet E S (.inl rfl) rfl rfl rfl rfl rfl rfl (by repeat (first | exact pk1 | apply pick_tail)) (look_not hnk) ?_); clear E S a; intro a w E S
        refine mix_nil ?_
        refine then_k hK ?_; clear hK; clear K
        refine wp_seq_k ?_; intro K hK
        replace E := E.keep (e' := [(6, _)]) (keep_cons rfl (keep_nil))
        refine region_list ?_
        refine list_pure E rfl rfl (by decide) (rn_assign E rfl rfl) ?_; clear E a; intro a E
        refine wpList_nil ?_
        refine then_k hK ?_; clear hK; clear K
        refine wp_ret ?_
        refine ret1 E rfl rfl ?_
        have hV3 := hV2.addG (q := ⟨t, sp⟩) (v := v35) (C := C35) hnk (by unfold grOk; simpa [Pl.lay] using hB35)
        have hpu : (mes .u64 (V2.G.map Gr.me)).push { key := .int .u64 txg, val := v35, born := V2.clock } = mes .u64 (V2.G.map Gr.me ++ [Gr.me ⟨txg, [⟨t, sp⟩], v35, V2.clock, C35⟩]) := mes_push .u64 (V2.G.map Gr.me) (Gr.me ⟨txg, [⟨t, sp⟩], v35, V2.clock, C35⟩)
        rw [hpu] at S
        have S := St.cls [_, _] (snocG (V := V2) (p := p) (g' := ⟨txg, [⟨t, sp⟩], v35, V2.clock, C35⟩) (cl := V2.clock + 1) [_, _] ((S.front5 (A := [(p, _)]) (B := V2.Cz) (C := V2.Cf) (D := V2.Cw) (F := [(V2.r, _)]) (by repeat (first | exact pk1 | apply pick_tail)) (by repeat (first | exact pk1 | apply pick_tail)) (by repeat (first | exact pk1 | apply pick_tail)) (by repeat (first | exact pk1 | apply pick_tail)) (by repeat (first | exact pk1 | apply pick_tail))).front3 (A := C35) (B := [(b34, _)]) (C := [(b4, _)]) (by repeat (first | exact pk1 | apply pick_tail)) (by repeat (first | exact pk1 | apply pick_tail)) (by repeat (first | exact pk1 | apply pick_tail))))
        rw [e] at hok ⊢
        exact ⟨_, rfl, rfl, _, ⟨hok, _, hV3, rfl⟩, (S.only (Bs := [_]) (sel_cons (by repeat (first | exact pk1 | apply pick_tail)) (sel_nil _))).tr⟩
      · skip
        refine mix_act rfl rfl (wp_bslice (cells := [_, _, _]) E S rfl rfl (by decide) rfl rfl rfl rfl rfl (by decide) rfl ?_); clear E S a; intro a w b34 E S; refine ⟨S.stab.sub (by first | (simp; done) | (simp +contextual; done) | (simp [*]; done)), ?_⟩
        refine mix_act rfl rfl (wp_take E (rn_lookup1_not (v := .slice none 0 0) E rfl rfl rfl rfl rfl rfl rfl (S.get (by repeat (first | exact pk1 | apply pick_tail))) (look_not hnk)) rfl (by decide) ?_); clear E a; intro a E; refine ⟨S.stab.sub (by first | (simp; done) | (simp +contextual; done) | (simp [*]; done)), ?_⟩
        refine mix_act rfl rfl (wp_append (by' := 24) E S rfl rfl (by decide) rfl rfl (Buf.nil _ _) (by repeat (first | exact pk1 | apply pick_tail)) ((rd1s _ _ _ _ _).src (S.stab.at (by repeat (first | exact mm1 | assumption | apply List.Mem.tail))) rfl) rfl rfl rfl rfl rfl rfl (by simp only [maxLen]; omega) (by omega) ?_); clear E S a; intro a w v35 C35 E S hB35; refine ⟨S.stab.sub (by first | (simp; done) | (simp +contextual; done) | (simp [*]; done)), ?_⟩
        refine mix_last rfl rfl (wp_mapSet E S (.inl rfl) rfl rfl rfl rfl rfl rfl (by repeat (first | exact pk1 | apply pick_tail)) (look_not hnk) ?_); clear E S a; intro a w E S
        refine mix_nil ?_
        refine then_k hK ?_; clear hK; clear K
        refine wp_seq_k ?_; intro K hK
        replace E := E.keep (e' := [(6, _)]) (keep_cons rfl (keep_nil))
        refine region_list ?_
        refine list_pure E rfl rfl (by decide) (rn_assign E rfl rfl) ?_; clear E a; intro a E
        refine wpList_nil ?_
        refine then_k hK ?_; clear hK; clear K
        refine wp_ret ?_
        refine ret1 E rfl rfl ?_
        have hV3 := hV2.addG (q := ⟨t, sp⟩) (v := v35) (C := C35) hnk (by unfold grOk; simpa [Pl.lay] using hB35)
        have hpu : (mes .u64 (V2.G.map Gr.me)).push { key := .int .u64 txg, val := v35, born := V2.clock } = mes .u64 (V2.G.map Gr.me ++ [Gr.me ⟨txg, [⟨t, sp⟩], v35, V2.clock, C35⟩]) := mes_push .u64 (V2.G.map Gr.me) (Gr.me ⟨txg, [⟨t, sp⟩], v35, V2.clock, C35⟩)
        rw [hpu] at S
        have S := St.cls [_, _] (snocG (V := V2) (p := p) (g' := ⟨txg, [⟨t, sp⟩], v35, V2.clock, C35⟩) (cl := V2.clock + 1) [_, _] ((S.front5 (A := [(p, _)]) (B := V2.Cz) (C := V2.Cf) (D := V2.Cw) (F := [(V2.r, _)]) (by repeat (first | exact pk1 | apply pick_tail)) (by repeat (first | exact pk1 | apply pick_tail)) (by repeat (first | exact pk1 | apply pick_tail)) (by repeat (first | exact pk1 | apply pick_tail)) (by repeat (first | exact pk1 | apply pick_tail))).front3 (A := C35) (B := [(b34, _)]) (C := [(b4, _)]) (by repeat (first | exact pk1 | apply pick_tail)) (by repeat (first | exact pk1 | apply pick_tail)) (by repeat (first | exact pk1 | apply pick_tail))))
        rw [e] at hok ⊢
        exact ⟨_, rfl, rfl, _, ⟨hok, _, hV3, rfl⟩, (S.only (Bs := [_]) (sel_cons (by repeat (first | exact pk1 | apply pick_tail)) (sel_nil _))).tr⟩
end Go.Proofs.Ytenhebjhoicpjaa
