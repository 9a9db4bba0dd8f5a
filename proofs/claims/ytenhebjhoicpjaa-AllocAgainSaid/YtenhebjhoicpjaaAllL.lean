/-
  Allocators: a group is committed.
-/
import Derived.Test.YtenhebjhoicpjaaAllK
namespace Go.Sl
theorem backs_by : ∀ (l : List Pl) (x : Al) (b : List (Int × List Pl)), Al.backs { x with by_ := b } l = { x.backs l with by_ := b }
  | [], _, _ => rfl
  | p :: r, x, b => backs_by r (x.back1 p) b
theorem backs_eq {x yc : Al} (h : yc = { x with by_ := yc.by_ }) (l : List Pl) (b : List (Int × List Pl)) : ({ yc.backs l with by_ := b } : Al) = { x.backs l with by_ := b } := by
  have h1 : yc.backs l = { x.backs l with by_ := yc.by_ } := (congrArg (fun z => Al.backs z l) h).trans (backs_by l x _)
  rw [h1]
theorem backs_append (x : Al) (l m : List Pl) : x.backs (l ++ m) = (x.backs l).backs m := List.foldl_append
theorem backs_snoc (x : Al) (l : List Pl) (p : Pl) : x.backs (l ++ [p]) = (x.backs l).back1 p := by rw [backs_append]; rfl
def unseen (G : List Gr) (seen : Array Nat) : Nat := (G.filter fun g => !seen.toList.contains g.born).length
theorem unseen_lt {G : List Gr} {seen : Array Nat} {g : Gr} (hg : g ∈ G) (hn : g.born ∉ seen.toList) : unseen G (seen.push g.born) < unseen G seen := by
  refine filter_lt (fun g => !seen.toList.contains g.born) (fun z => !(seen.push g.born).toList.contains z.born) (fun x hx => ?_) g ?_ ?_ G hg
  · simp at hx ⊢; exact hx.1
  · simp at hn ⊢; exact hn
  · simp
theorem unseen_drop (GA GB : List Gr) (g : Gr) (seen : Array Nat) : unseen (GA ++ GB) seen ≤ unseen (GA ++ g :: GB) seen :=
  ((List.Sublist.append_left (List.sublist_cons_self g GB) GA).filter _).length_le
end Go.Sl
namespace Go.Proofs.Ytenhebjhoicpjaa
open Go.Sl
set_option maxRecDepth 10000
section
variable {V : Av} {p : Nat} {GA GB : List Gr} {g : Gr} {w0 w : World} {As Ls : List Chunk}
theorem Av.inG (h : g ∈ V.G) : g.C ∈ V.chs p ++ Ls :=
  List.mem_append_left _ (List.mem_cons_of_mem _ (List.mem_cons_of_mem _ (List.mem_cons_of_mem _ (List.mem_cons_of_mem _ (List.mem_cons_of_mem _ (List.mem_append_right _ (List.mem_append_right _ (List.mem_map_of_mem h))))))))
theorem dropG (Ds : List Chunk) (S : St w0 As w (Ds ++ (V.restG p (GA.map Gr.me ++ GB.map Gr.me) V.clock GA GB ++ Ls))) : St w0 As w (Ds ++ (Av.chs { V with G := GA ++ GB } p ++ Ls)) := by
  unfold Av.restG at S
  rw [← List.map_append] at S
  exact S
theorem Av.Ok.delG {y : Al} (h : V.Ok y) (hG : V.G = GA ++ g :: GB) : Av.Ok { V with G := GA ++ GB } { y with by_ := (GA ++ GB).map Gr.kp } := by
  have hs : (GA ++ GB).Sublist V.G := by rw [hG]; exact List.Sublist.append_left (List.sublist_cons_self g GB) GA
  exact ⟨h.z, h.f, h.w, h.fs, h.ws, fun s hs' => h.gs s (hs.subset hs'), h.ef, h.ew, rfl, meOk_sub h.me (hs.map _)⟩
end
theorem sync_end {y yc : Al} {txg : Int} {gs : List (Int × List Pl)} (hyc : yc = { y.backs (gs.flatMap (·.2)) with by_ := yc.by_ }) (hp : (gs ++ yc.by_.filter fun g => ripe txg g.1).Perm (y.by_.filter fun g => ripe txg g.1)) (hf : (yc.by_.filter fun g => !ripe txg g.1) = y.by_.filter fun g => !ripe txg g.1) (hn : ∀ g ∈ yc.by_, ripe txg g.1 = false) : y.Sync txg yc := by
  have h1 : yc.by_.filter (fun g => ripe txg g.1) = [] := List.filter_eq_nil_iff.2 fun g hg => by rw [hn g hg]; simp
  have h2 : yc.by_.filter (fun g => !ripe txg g.1) = yc.by_ := List.filter_eq_self.2 fun g hg => by rw [hn g hg]; rfl
  rw [h1, List.append_nil] at hp
  refine ⟨gs, hp, ?_⟩
  rw [← hf, h2]
  exact hyc

theorem nodup_inj {α β : Type} {f : α → β} : ∀ {l : List α}, (l.map f).Nodup → ∀ {x y}, x ∈ l → y ∈ l → f x = f y → x = y
  | [], _, _, _, h, _, _ => by cases h
  | z :: r, hn, x, y, hx, hy, h => by
    rw [List.map_cons, List.nodup_cons] at hn
    rcases List.mem_cons.1 hx with rfl | hx'
    · rcases List.mem_cons.1 hy with rfl | hy'
      · rfl
      · exact absurd (by rw [h]; exact List.mem_map_of_mem hy') hn.1
    · rcases List.mem_cons.1 hy with rfl | hy'
      · exact absurd (by rw [← h]; exact List.mem_map_of_mem hx') hn.1
      · exact nodup_inj hn.2 hx' hy' h
theorem Av.Ok.nb {V : Av} {y : Al} (h : V.Ok y) : (V.G.map (·.born)).Nodup := by
  have h1 := h.me.nb
  rw [List.map_map] at h1
  exact h1
theorem Av.Ok.nk {V : Av} {y : Al} (h : V.Ok y) : (V.G.map (·.key)).Nodup := by
  have h1 := h.me.nk
  rw [List.map_map] at h1
  exact h1
theorem seen_more {V : Av} {y : Al} {g : Gr} {seen : Array Nat} {P : Int → Prop} (h : V.Ok y) (hg : g ∈ V.G) (hs : ∀ u ∈ V.G, u.born ∈ seen.toList → P u.key) (hP : P g.key) : ∀ u ∈ V.G, u.born ∈ (seen.push g.born).toList → P u.key := by
  intro u hu hb
  rw [Array.toList_push, List.mem_append, List.mem_singleton] at hb
  rcases hb with hb | hb
  · exact hs u hu hb
  · rw [nodup_inj h.nb hu hg hb]; exact hP
theorem ok_by {x : Al} {b : List (Int × List Pl)} (h : x.Ok) (hb : b.Sublist x.by_) : Al.Ok { x with by_ := b } :=
  ⟨h.n1, h.n4, h.nf, h.nw, h.sz, h.fr, h.wt, (hb.map _).nodup h.keys, fun g hg => h.u64 g (hb.subset hg), fun g hg q hq => h.tops g (hb.subset hg) q hq⟩

theorem async_ret (p : Nat) (y : Al) (txg : Int) (hx : 0 ≤ txg ∧ txg < 18446744073709551616) (A : Chunk) (hA : AlC p y A) (w0 : World) (H : Hp w0 [A]) :
    Ret Try.prog 11 #[ptr p, .int .u64 txg] w0 fun _ w' => ∃ y' A', y.Sync txg y' ∧ AlC p y' A' ∧ Trs w0 w' [A] [A'] := by
  obtain ⟨ho, V, hV, rfl⟩ := hA
  have S := (St.begin H).openF (Ls := [])
  refine enter2 60 Try.func11 rfl rfl (by decide) ?_; intro a E
  refine wp_seq_k ?_; intro K hK
  refine region_list ?_
  refine list_pure E rfl rfl (by decide) (rn_move E rfl rfl) ?_; clear E a; intro a E
  refine list_pure E rfl rfl (by decide) (rn_nilCheck E rfl rfl) ?_; clear E a; intro a E
  refine list_pure E rfl rfl (by decide) (by first | exact rn_fieldAddr0 (q := 3) E rfl rfl rfl | exact rn_fieldAddr (q := 3) E rfl rfl rfl) ?_; clear E a; intro a E
  refine list_pure E rfl rfl (by decide) (by first | exact rn_load E rfl rfl rfl (S.get (by repeat (first | exact pk1 | apply pick_tail))) rfl | exact rn_loadc E rfl rfl rfl (by assumption)) ?_; clear E a; intro a E
  refine list_wp rfl (wp_range E S rfl rfl (by decide) rfl rfl (by repeat (first | exact pk1 | apply pick_tail)) ?_); clear E S a; intro a w b12 E S
  refine wpList_nil ?_
  refine then_k hK ?_; clear hK; clear K
  refine wp_block ?_
  refine wp_loop_ghost (fun (m : Nat) (a : Act) (w' : World) => ∃ (gs : List (Int × List Pl)) (V' : Av) (yc : Al) (seen : Array Nat), m = unseen V'.G seen ∧ V'.Ok yc ∧ yc.Ok ∧ yc = { y.backs (gs.flatMap (·.2)) with by_ := yc.by_ } ∧ (gs ++ yc.by_.filter fun g => ripe txg g.1).Perm (y.by_.filter fun g => ripe txg g.1) ∧ (yc.by_.filter fun g => !ripe txg g.1) = (y.by_.filter fun g => !ripe txg g.1) ∧ (∀ g ∈ V'.G, g.born ∈ seen.toList → ripe txg g.key = false) ∧ (∃ Xs, St w0 [(V.chs p).flatten] w' ([(b12, .mapIter (some V'.r) V'.clock seen V'.clock)] :: (V'.chs p ++ Xs))) ∧ Fr a 60 [(0, ptr p), (1, .int .u64 txg), (12, ptr b12)]) (unseen V.G #[]) ?_ ?_
  · exact ⟨[], V, y, #[], rfl, hV, ho, rfl, List.Perm.refl _, rfl, fun g _ h => by simp at h, ⟨[], S.front2 (A := [(b12, _)]) (by repeat (first | exact pk1 | apply pick_tail)) (List.Perm.refl _)⟩, E.keep (keep_cons rfl (keep_cons rfl (keep_cons rfl keep_nil)))⟩
  clear E; clear a; (try clear S); rintro m a w ⟨gs, V', yc, seen, rfl, hV', hoc, hyc, hpm, hfl, hsn, ⟨Xs, S⟩, E⟩
  refine wp_seq_k ?_; intro K hK
  refine region_list ?_
  refine list_wp rfl (wp_nextM E S rfl rfl (by decide) rfl (List.Perm.cons _ (by repeat (first | exact pk1 | apply pick_tail))) (fun m hm => hV'.me.born m hm) (Nat.le_refl _) ?_); clear E S a; intro a w v13 E hN13
  rcases hN13 with ⟨rfl, hall, S⟩ | ⟨m, hm, hns, rfl, S⟩
  · skip
    have hall2 : ∀ g ∈ yc.by_, ripe txg g.1 = false := (fun g hg => by rw [hV'.eg] at hg; obtain ⟨u, hu, rfl⟩ := List.mem_map.1 hg; exact hsn u hu (hall u.me (List.mem_map_of_mem hu))); have S := S.front6 (A := [(b12, _)]) (B := [(p, _)]) (C := V'.Cz) (D := V'.Cf) (F := V'.Cw) (G := [(V'.r, _)]) (by repeat (first | exact pk1 | apply pick_tail)) (by repeat (first | exact pk1 | apply pick_tail)) (by repeat (first | exact pk1 | apply pick_tail)) (by repeat (first | exact pk1 | apply pick_tail)) (by repeat (first | exact pk1 | apply pick_tail)) (by repeat (first | exact pk1 | apply pick_tail)); have S : St w0 [(V.chs p).flatten] w ([(b12, .mapIter (some V'.r) V'.clock seen V'.clock)] :: (V'.chs p ++ Xs)) := S
    refine list_pure E rfl rfl (by decide) (rn_extract E rfl rfl rfl) ?_; clear E a; intro a E
    refine wpList_nil ?_
    refine then_k hK ?_; clear hK; clear K
    refine wp_seq_k ?_; intro K hK
    refine if_false' E rfl (rfl) ?_
    refine wp_exit ?_
    refine then_exit ?_; clear hK; clear K
    refine then_exit ?_
    refine in_exit ?_
    refine end0 E rfl ?_
    exact ⟨_, rfl, yc, _, sync_end hyc hpm hfl hall2, ⟨hoc, V', hV', rfl⟩, ((St.cls [_] (Ms := V'.chs p) S).only (Bs := [_]) (sel_cons (by repeat (first | exact pk1 | apply pick_tail)) (sel_nil _))).tr⟩
  · skip
    obtain ⟨g, hg, rfl⟩ := List.mem_map.1 hm; have S := S.front6 (A := [(b12, _)]) (B := [(p, _)]) (C := V'.Cz) (D := V'.Cf) (F := V'.Cw) (G := [(V'.r, _)]) (by repeat (first | exact pk1 | apply pick_tail)) (by repeat (first | exact pk1 | apply pick_tail)) (by repeat (first | exact pk1 | apply pick_tail)) (by repeat (first | exact pk1 | apply pick_tail)) (by repeat (first | exact pk1 | apply pick_tail)) (by repeat (first | exact pk1 | apply pick_tail)); have S : St w0 [(V.chs p).flatten] w ([(b12, .mapIter (some V'.r) V'.clock (seen.push g.born) V'.clock)] :: (V'.chs p ++ Xs)) := S; have hlt := unseen_lt hg hns
    refine list_pure E rfl rfl (by decide) (rn_extract E rfl rfl rfl) ?_; clear E a; intro a E
    refine wpList_nil ?_
    refine then_k hK ?_; clear hK; clear K
    refine wp_seq_k ?_; intro K hK
    refine if_true' E rfl (rfl) ?_
    refine wp_skip ?_
    refine then_k hK ?_; clear hK; clear K
    refine wp_block ?_
    refine wp_seq_k ?_; intro K hK
    refine region_list ?_
    refine list_wp rfl (wp_take E (rn_entry (m := g.me) E rfl rfl (S.get (by repeat (first | exact pk1 | apply pick_tail))) (S.get (by repeat (first | exact pk1 | apply pick_tail))) hm hV'.me.nb) rfl (by decide) ?_); clear E a; intro a E
    refine list_pure E rfl rfl (by decide) (rn_extract E rfl rfl rfl) ?_; clear E a; intro a E
    refine list_pure E rfl rfl (by decide) (rn_extract E rfl rfl rfl) ?_; clear E a; intro a E
    refine list_pure E rfl rfl (by decide) (rn_assign E rfl rfl) ?_; clear E a; intro a E
    refine list_pure E rfl rfl (by decide) (rn_assign E rfl rfl) ?_; clear E a; intro a E
    refine wpList_nil ?_
    refine then_k hK ?_; clear hK; clear K
    refine wp_seq_k ?_; intro K hK
    refine wp_seq_k ?_; intro K hK
    refine region_list ?_
    refine list_pure E rfl rfl (by decide) (rn_move E rfl rfl) ?_; clear E a; intro a E
    refine list_pure E rfl rfl (by decide) (rn_lss E rfl rfl rfl) ?_; clear E a; intro a E
    refine list_pure E rfl rfl (by decide) (rn_move E rfl rfl) ?_; clear E a; intro a E
    refine guard_split E (t := 20) rfl (fun hb20 => ?_) (fun hb20 => ?_)
    · have hb20n := hb20; replace hb20n := Nrm.nrm hb20n
      have hr : ripe txg g.key = false := (by unfold ripe; rw [decide_eq_false]; omega)
      refine list_guard_no E rfl rfl rfl rfl hb20 rfl (by decide) ?_; clear E a; intro a E
      refine list_guard_no E rfl rfl rfl rfl hb20 rfl (by decide) ?_; clear E a; intro a E
      refine list_guard_no E rfl rfl rfl rfl hb20 rfl (by decide) ?_; clear E a; intro a E
      refine list_guard_no E rfl rfl rfl rfl hb20 rfl (by decide) ?_; clear E a; intro a E
      refine list_pure E rfl rfl (by decide) (rn_pick_yes' E rfl rfl hb20 rfl) ?_; clear E a; intro a E
      refine wpList_nil ?_
      refine then_k hK ?_; clear hK; clear K
      refine if_true' E rfl rfl ?_
      refine wp_exit ?_
      refine then_exit ?_; clear hK; clear K
      refine in_exit ?_
      refine then_normal ?_
      exact ⟨_, hlt, gs, V', yc, seen.push g.born, rfl, hV', hoc, hyc, hpm, hfl, seen_more (P := fun k => ripe txg k = false) hV' hg hsn hr, ⟨Xs, S⟩, E.keep (keep_cons rfl (keep_cons rfl (keep_cons rfl keep_nil)))⟩
    · have hb20n := hb20; replace hb20n := Nrm.nrm hb20n
      skip
      refine list_guard_yes E rfl rfl rfl rfl hb20 rfl (by decide) (rn_move E rfl rfl) ?_; clear E a; intro a E
      refine list_guard_yes E rfl rfl rfl rfl hb20 rfl (by decide) (rn_move E rfl rfl) ?_; clear E a; intro a E
      refine list_guard_yes E rfl rfl rfl rfl hb20 rfl (by decide) (rn_sub E rfl rfl rfl (by first | exact ws_lit (y := 2) (by omega) (by omega) | exact w_in (by omega) | exact w_inu (by omega) | exact rfl)) ?_; clear E a; intro a E
      refine list_guard_yes E rfl rfl rfl rfl hb20 rfl (by decide) (rn_gtr E rfl rfl rfl) ?_; clear E a; intro a E
      refine list_pure E rfl rfl (by decide) (rn_pick_no' E rfl rfl hb20 rfl) ?_; clear E a; intro a E
      refine wpList_nil ?_
      refine then_k hK ?_; clear hK; clear K
      refine if_bool E rfl (fun hb => ?_) (fun hb => ?_)
      · replace hb := Nrm.nrm hb
        refine wp_exit ?_
        refine then_exit ?_; clear hK; clear K
        refine in_exit ?_
        refine then_normal ?_
        have hb' : txg - 2 < g.key := hb
        have hr : ripe txg g.key = false := by unfold ripe; rw [decide_eq_false]; omega
        exact ⟨_, hlt, gs, V', yc, seen.push g.born, rfl, hV', hoc, hyc, hpm, hfl, seen_more (P := fun k => ripe txg k = false) hV' hg hsn hr, ⟨Xs, S⟩, E.keep (keep_cons rfl (keep_cons rfl (keep_cons rfl keep_nil)))⟩
      · replace hb := Nrm.nrm hb
        refine wp_skip ?_
        refine then_k hK ?_; clear hK; clear K
        refine wp_seq_k ?_; intro K hK
        refine wp_seq_k ?_; intro K hK
        have hb' : ¬ txg - 2 < g.key := hb
        have hr : ripe txg g.key = true := by unfold ripe; rw [decide_eq_true]; omega
        have hgo : Buf g.C 33 3 g.val g.ps.length (g.ps.flatMap Pl.lay) := hV'.gs g hg
        obtain ⟨ga, gc, hgv⟩ := hgo.slice
        rw [hgv] at hgo
        have hmx := hgo.rd.2.2.1
        simp only [maxLen] at hmx
        have hgm : g.me.val = .slice ga g.ps.length gc := hgv
        rw [hgm] at E
        refine region_list ?_
        refine list_pure E rfl rfl (by decide) (rn_move E rfl rfl) ?_; clear E a; intro a E
        refine list_pure E rfl rfl (by decide) (by first | exact rn_len E rfl rfl rfl | exact rn_len_str E rfl rfl rfl | exact rn_len_string E rfl rfl rfl) ?_; clear E a; intro a E
        refine list_pure E rfl rfl (by decide) (rn_move E rfl rfl) ?_; clear E a; intro a E
        refine wpList_nil ?_
        refine then_k hK ?_; clear hK; clear K
        refine wp_block ?_
        refine wp_loop_ghost (fun (m : Nat) (a : Act) (w' : World) => ∃ (j : Nat) (V2 : Av), m = g.ps.length - j ∧ j ≤ g.ps.length ∧ V2.Ok (yc.backs (g.ps.take j)) ∧ (yc.backs (g.ps.take j)).Ok ∧ V2.G = V'.G ∧ V2.r = V'.r ∧ V2.clock = V'.clock ∧ (∃ Xs, St w0 [(V.chs p).flatten] w' ([(b12, .mapIter (some V'.r) V'.clock (seen.push g.born) V'.clock)] :: (V2.chs p ++ Xs))) ∧ Fr a 60 [(0, ptr p), (1, .int .u64 txg), (4, .int .u64 g.key), (12, ptr b12), (26, .slice ga g.ps.length gc), (27, .int .i64 g.ps.length), (28, .int .i64 j)]) (g.ps.length - 0) ?_ ?_
        · exact ⟨0, V', rfl, by omega, hV', hoc, rfl, rfl, rfl, ⟨Xs, S⟩, E.keep (keep_cons rfl (keep_cons rfl (keep_cons rfl (keep_cons rfl (keep_cons rfl (keep_cons rfl (keep_cons rfl keep_nil)))))))⟩
        clear E; clear a; (try clear S); rintro m a w ⟨j, V2, rfl, hj, hV2, ho2, hG2, hr2, hc2, ⟨Xs, S⟩, E⟩
        refine wp_seq_k ?_; intro K hK
        refine region_list ?_
        refine list_pure E rfl rfl (by decide) (rn_lss E rfl rfl rfl) ?_; clear E a; intro a E
        refine wpList_nil ?_
        refine then_k hK ?_; clear hK; clear K
        refine wp_seq_k ?_; intro K hK
        refine if_bool E rfl (fun hb => ?_) (fun hb => ?_)
        · replace hb := Nrm.nrm hb
          refine wp_skip ?_
          refine then_k hK ?_; clear hK; clear K
          refine wp_seq_k ?_; intro K hK
          refine wp_block ?_
          refine wp_seq_k ?_; intro K hK
          have hjl : j < g.ps.length := by omega
          obtain ⟨gb, rfl⟩ := hgo.addr (by omega)
          have hgm2 : g ∈ V2.G := by rw [hG2]; exact hg
          have hhas := hoc.tops g.kp (by rw [hV'.eg]; exact List.mem_map_of_mem hg) g.ps[j] (List.getElem_mem hjl)
          have hsz := (Al.backs_sizes yc (g.ps.take j)).1
          refine region_list ?_
          refine list_pure E rfl rfl (by decide) (by first | exact rn_indexAddr1 E rfl rfl rfl rfl rfl rfl (by omega) | exact rn_indexAddr E rfl rfl rfl rfl rfl rfl (by omega) | exact rn_indexAddr_array E rfl rfl rfl rfl rfl rfl (by omega)) ?_; clear E a; intro a E
          refine list_pure E rfl rfl (by decide) (rn_load_aggc (vs := [_, _, _]) E rfl rfl rfl rfl (hgo.rd.elem (lay := Pl.lay) Pl.lay_len (S.stab.at (by repeat (first | exact Av.inG hgm2 | apply List.mem_cons_of_mem))) hjl)) ?_; clear E a; intro a E
          refine list_wp rfl (wp_alloc E S rfl rfl (by decide) rfl rfl rfl ?_); clear E S a; intro a w b7 E S
          refine list_wp rfl (wp_storeN E S rfl rfl rfl rfl (by simp [Value.oneCell']) rfl (by repeat (first | exact pk1 | apply pick_tail)) (by simp) ?_); clear E S a; intro a w E S; simp only [List.take_succ_cons, List.take_zero, List.drop_succ_cons, List.drop_zero, List.cons_append, List.nil_append, List.append_nil, List.length_cons, List.length_nil, Nat.zero_add, Nat.add_zero] at S
          refine wpList_nil ?_
          refine then_k hK ?_; clear hK; clear K
          refine wp_seq_k ?_; intro K hK
          have hbs := backs_snoc yc (g.ps.take j) g.ps[j]
          rw [← take_succ_at _ hjl] at hbs
          obtain ⟨top, sp, hq⟩ : ∃ u z, g.ps[j] = ⟨u, z⟩ := ⟨_, _, rfl⟩
          rw [hq] at S hhas hbs
          dsimp only at S
          obtain ⟨y2, hy2⟩ : ∃ y2, y2 = yc.backs (g.ps.take j) := ⟨_, rfl⟩
          rw [← hy2] at hV2 ho2 hsz hbs
          simp only [Al.has, decide_eq_true_eq] at hhas
          obtain ⟨t, rfl⟩ : ∃ t : Nat, top = t := ⟨top.toNat, by omega⟩
          have hlW := hV2.lenW ho2
          have hlF := hV2.lenF ho2
          rw [hsz] at hlW hlF
          obtain ⟨f1, f2, evw⟩ := hV2.w.slice
          have hVw := hV2.w
          rw [evw] at hVw
          obtain ⟨FA, f, FB, hF, hfl2⟩ := split_at (l := V2.W) (i := t) (by omega)
          obtain ⟨fb, fo, rfl⟩ := hVw.rd.addr (by omega)
          have hfa : y2.wt t = f.l := by rw [← hfl2]; exact wt_mid (hV2.ew.trans (by rw [hF]))
          have hfm : f ∈ V2.W := by rw [hF]; simp
          have S := focW [_, _] hF S
          refine region_mix S (.ofL [(0, 0), (1, 0), (2, 0), (3, 0), (4, 0), (5, 0), (6, 0), (7, 0), (8, 0), (9, 0), (10, 3)]) [hdc p V2.vs V2.vf V2.vw V2.r, V2.Cw, [(b7, cel [.int .i64 t, .int .i64 sp.at_, .int .i64 sp.many] 33)]] (fun h => h.sub (by first | (simp; done) | (simp +contextual; done) | (simp [*]; done))) (by kernel_rfl) (by kernel_rfl) ?_
          clear S; intro w S
          refine mix_pure E rfl rfl rfl (by decide) (fun w h => rn_move E rfl rfl) ?_; clear E a; intro a E
          refine mix_pure E rfl rfl rfl (by decide) (fun w h => rn_nilCheck E rfl rfl) ?_; clear E a; intro a E
          refine mix_pure E rfl rfl rfl (by decide) (fun w h => by first | exact rn_fieldAddr0 (q := 2) E rfl rfl rfl | exact rn_fieldAddr (q := 2) E rfl rfl rfl) ?_; clear E a; intro a E
          refine mix_pure E rfl rfl rfl (by decide) (fun w h => by first | exact rn_load E rfl rfl rfl (h.one (by repeat (first | exact mm1 | assumption | apply List.Mem.tail))) rfl | exact rn_loadc E rfl rfl rfl (by assumption)) ?_; clear E a; intro a E
          rw [evw] at E
          refine mix_pure E rfl rfl rfl (by decide) (fun w h => by first | exact rn_fieldAddr0 (q := 0) E rfl rfl rfl | exact rn_fieldAddr (q := 0) E rfl rfl rfl) ?_; clear E a; intro a E
          refine mix_pure E rfl rfl rfl (by decide) (fun w h => by first | exact rn_load E rfl rfl rfl (h.one (by repeat (first | exact mm1 | assumption | apply List.Mem.tail))) rfl | exact rn_loadc E rfl rfl rfl (by assumption)) ?_; clear E a; intro a E
          refine mix_pure E rfl rfl rfl (by decide) (fun w h => by first | exact rn_indexAddr1 E rfl rfl rfl rfl rfl rfl (by omega) | exact rn_indexAddr E rfl rfl rfl rfl rfl rfl (by omega) | exact rn_indexAddr_array E rfl rfl rfl rfl rfl rfl (by omega)) ?_; clear E a; intro a E
          refine mix_pure E rfl rfl rfl (by decide) (fun w h => rn_loadc E rfl rfl rfl ((by have h9 := hVw.rd; rw [hF] at h9; exact h9.midi hfl2 (h.at (by repeat (first | exact mm1 | assumption | apply List.Mem.tail)))))) ?_; clear E a; intro a E
          refine mix_pure E rfl rfl rfl (by decide) (fun w h => by first | exact rn_fieldAddr0 (q := 1) E rfl rfl rfl | exact rn_fieldAddr (q := 1) E rfl rfl rfl) ?_; clear E a; intro a E
          refine mix_pure E rfl rfl rfl (by decide) (fun w h => rn_load_blk (vs := [_, _]) E rfl rfl rfl (h.one (by repeat (first | exact mm1 | assumption | apply List.Mem.tail))) rfl rfl) ?_; clear E a; intro a E
          refine mix_call3 E rfl rfl rfl (by decide) rfl Try.func23 rfl (by kernel_rfl) rfl (rem_ret f.p f.l sp f.C _ (hV2.ws f hfm) (hfa ▸ ho2.wtAt t) (S.hp.sel (sel_cons (by repeat (first | exact pk1 | apply pick_tail)) (sel_nil _)))) ?_
          rintro v42 w ⟨rfl, C2, hC2, hT⟩; clear E a; intro a E
          have S := S.call1 (sel_cons (by repeat (first | exact pk1 | apply pick_tail)) (sel_nil _)) hT
          refine mix_nil ?_
          refine then_k hK ?_; clear hK; clear K
          have hV3 := hV2.newW hF hC2
          rw [hfl2] at hV3
          have S := unfocW (V := V2) (p := p) (FA := FA) (FB := FB) (f' := ⟨f.p, remS f.l sp, C2⟩) [_, _] S
          obtain ⟨V3, hV3e⟩ : ∃ V3 : Av, V3 = { V2 with W := FA ++ ⟨f.p, remS f.l sp, C2⟩ :: FB } := ⟨_, rfl⟩
          rw [← hV3e] at hV3 S
          have e1 : V3.F = V2.F := by rw [hV3e]
          rw [← e1] at hlF
          have e2 : V3.G = V2.G := by rw [hV3e]
          have e3 : V3.r = V2.r := by rw [hV3e]
          have e4 : V3.clock = V2.clock := by rw [hV3e]
          obtain ⟨h1, h2, evf⟩ := hV3.f.slice
          have hVf := hV3.f
          rw [evf] at hVf
          obtain ⟨HA, u, HB, hH, hhl⟩ := split_at (l := V3.F) (i := t) (by omega)
          obtain ⟨ub, uo, rfl⟩ := hVf.rd.addr (by omega)
          have hua : y2.fr t = u.l := by rw [← hhl]; exact fr_mid (y := y2.setW t (remS f.l sp)) (hV3.ef.trans (by rw [hH]))
          have hum : u ∈ V3.F := by rw [hH]; simp
          have S := focF [_, _] hH S
          refine region_mix S (.ofL [(0, 0), (1, 0), (2, 0), (3, 0), (4, 0), (5, 0), (6, 0), (7, 0), (8, 0), (9, 0), (10, 3)]) [hdc p V3.vs V3.vf V3.vw V3.r, V3.Cf, [(b7, cel [.int .i64 t, .int .i64 sp.at_, .int .i64 sp.many] 33)]] (fun h => h.sub (by first | (simp; done) | (simp +contextual; done) | (simp [*]; done))) (by kernel_rfl) (by kernel_rfl) ?_
          clear S; intro w S
          refine mix_pure E rfl rfl rfl (by decide) (fun w h => rn_move E rfl rfl) ?_; clear E a; intro a E
          refine mix_pure E rfl rfl rfl (by decide) (fun w h => rn_nilCheck E rfl rfl) ?_; clear E a; intro a E
          refine mix_pure E rfl rfl rfl (by decide) (fun w h => by first | exact rn_fieldAddr0 (q := 1) E rfl rfl rfl | exact rn_fieldAddr (q := 1) E rfl rfl rfl) ?_; clear E a; intro a E
          refine mix_pure E rfl rfl rfl (by decide) (fun w h => by first | exact rn_load E rfl rfl rfl (h.one (by repeat (first | exact mm1 | assumption | apply List.Mem.tail))) rfl | exact rn_loadc E rfl rfl rfl (by assumption)) ?_; clear E a; intro a E
          rw [evf] at E
          refine mix_pure E rfl rfl rfl (by decide) (fun w h => by first | exact rn_fieldAddr0 (q := 0) E rfl rfl rfl | exact rn_fieldAddr (q := 0) E rfl rfl rfl) ?_; clear E a; intro a E
          refine mix_pure E rfl rfl rfl (by decide) (fun w h => by first | exact rn_load E rfl rfl rfl (h.one (by repeat (first | exact mm1 | assumption | apply List.Mem.tail))) rfl | exact rn_loadc E rfl rfl rfl (by assumption)) ?_; clear E a; intro a E
          refine mix_pure E rfl rfl rfl (by decide) (fun w h => by first | exact rn_indexAddr1 E rfl rfl rfl rfl rfl rfl (by omega) | exact rn_indexAddr E rfl rfl rfl rfl rfl rfl (by omega) | exact rn_indexAddr_array E rfl rfl rfl rfl rfl rfl (by omega)) ?_; clear E a; intro a E
          refine mix_pure E rfl rfl rfl (by decide) (fun w h => rn_loadc E rfl rfl rfl ((by have h9 := hVf.rd; rw [hH] at h9; exact h9.midi hhl (h.at (by repeat (first | exact mm1 | assumption | apply List.Mem.tail)))))) ?_; clear E a; intro a E
          refine mix_pure E rfl rfl rfl (by decide) (fun w h => by first | exact rn_fieldAddr0 (q := 1) E rfl rfl rfl | exact rn_fieldAddr (q := 1) E rfl rfl rfl) ?_; clear E a; intro a E
          refine mix_pure E rfl rfl rfl (by decide) (fun w h => rn_load_blk (vs := [_, _]) E rfl rfl rfl (h.one (by repeat (first | exact mm1 | assumption | apply List.Mem.tail))) rfl rfl) ?_; clear E a; intro a E
          refine mix_call3 E rfl rfl rfl (by decide) rfl Try.func32 rfl (by kernel_rfl) rfl (add_ret u.p u.l sp u.C _ (hV3.fs u hum) (hua ▸ ho2.frAt t) (S.hp.sel (sel_cons (by repeat (first | exact pk1 | apply pick_tail)) (sel_nil _)))) ?_
          rintro v53 w ⟨rfl, C3, hC3, hT⟩; clear E a; intro a E
          have S := S.call1 (sel_cons (by repeat (first | exact pk1 | apply pick_tail)) (sel_nil _)) hT
          refine mix_nil ?_
          refine in_normal ?_
          refine then_k hK ?_; clear hK; clear K
          refine region_list ?_
          refine list_pure E rfl rfl (by decide) (rn_add E rfl rfl rfl (by first | exact wa_lit (y := 1) (by omega) | exact w_in (by omega) | exact w_inu (by omega) | exact rfl)) ?_; clear E a; intro a E
          refine list_pure E rfl rfl (by decide) (rn_move E rfl rfl) ?_; clear E a; intro a E
          refine wpList_nil ?_
          refine then_normal ?_
          have hV4 := hV3.newF hH hC3
          rw [hhl] at hV4
          have S := (unfocF (V := V3) (p := p) (FA := HA) (FB := HB) (f' := ⟨u.p, addS u.l sp, C3⟩) [_, _] S).tail
          have hbk : (y2.setW t (remS f.l sp)).setF t (addS u.l sp) = y2.back1 ⟨t, sp⟩ := by simp only [Al.back1, Int.toNat_natCast, hfa, hua]
          rw [hbk, ← hbs] at hV4
          exact ⟨_, by omega, j + 1, _, rfl, by omega, hV4, Al.backs_ok hoc _, e2.trans hG2, e3.trans hr2, e4.trans hc2, ⟨_, S⟩, E.keep (keep_cons rfl (keep_cons rfl (keep_cons rfl (keep_cons rfl (keep_cons rfl (keep_cons rfl (keep_cons rfl keep_nil)))))))⟩
        · replace hb := Nrm.nrm hb
          refine wp_exit ?_
          refine then_exit ?_; clear hK; clear K
          refine then_exit ?_
          refine in_exit ?_
          refine then_k hK ?_; clear hK; clear K
          obtain rfl : j = g.ps.length := by omega
          rw [List.take_length] at hV2 ho2
          obtain ⟨GA, GB, hG⟩ := List.append_of_mem (show g ∈ V2.G by rw [hG2]; exact hg)
          have hkn := hV2.nk
          have hbn := hV2.nb
          rw [hG] at hkn hbn
          have hkz : ∀ z ∈ GA, z.key ≠ g.key := fun z hz hq => by
            rw [List.map_append, List.map_cons, List.nodup_append] at hkn
            exact hkn.2.2 z.key (List.mem_map_of_mem hz) g.key (List.mem_cons_self ..) hq
          have hbz : ∀ z ∈ GA ++ GB, z.born ≠ g.born := fun z hz hq => by
            have h8 := (List.Perm.nodup_iff ((List.perm_middle (a := g) (l₁ := GA) (l₂ := GB)).map (·.born))).1 hbn
            rw [List.map_cons, List.nodup_cons] at h8
            exact h8.1 (by rw [← hq]; exact List.mem_map_of_mem hz)
          have S := focG [_] hG S
          refine region_list ?_
          refine list_pure E rfl rfl (by decide) (rn_move E rfl rfl) ?_; clear E a; intro a E
          refine list_pure E rfl rfl (by decide) (rn_nilCheck E rfl rfl) ?_; clear E a; intro a E
          refine list_pure E rfl rfl (by decide) (by first | exact rn_fieldAddr0 (q := 3) E rfl rfl rfl | exact rn_fieldAddr (q := 3) E rfl rfl rfl) ?_; clear E a; intro a E
          refine list_pure E rfl rfl (by decide) (by first | exact rn_load E rfl rfl rfl (S.get (by repeat (first | exact pk1 | apply pick_tail))) rfl | exact rn_loadc E rfl rfl rfl (by assumption)) ?_; clear E a; intro a E
          refine list_pure E rfl rfl (by decide) (rn_move E rfl rfl) ?_; clear E a; intro a E
          refine list_wp rfl (wp_mapDel E S rfl rfl rfl rfl rfl rfl (by repeat (first | exact pk1 | apply pick_tail)) (fun z hz => by obtain ⟨u, hu, rfl⟩ := List.mem_map.1 hz; exact hkz u hu) ?_); clear E S a; intro a w E S
          refine wpList_nil ?_
          refine in_normal ?_
          refine then_normal ?_
          have S := (S.front1 (A := g.C) (by repeat (first | exact pk1 | apply pick_tail))).tail
          have S := S.front6 (A := [(b12, _)]) (B := [(p, _)]) (C := V2.Cz) (D := V2.Cf) (F := V2.Cw) (G := [(V2.r, _)]) (by repeat (first | exact pk1 | apply pick_tail)) (by repeat (first | exact pk1 | apply pick_tail)) (by repeat (first | exact pk1 | apply pick_tail)) (by repeat (first | exact pk1 | apply pick_tail)) (by repeat (first | exact pk1 | apply pick_tail)) (by repeat (first | exact pk1 | apply pick_tail))
          have S := dropG (V := V2) (p := p) (GA := GA) (GB := GB) [_] S
          have hV5 := hV2.delG hG
          rw [← hr2, ← hc2] at S
          have hyk : (yc.backs g.ps).by_ = yc.by_ := (Al.backs_sizes yc g.ps).2
          have hye : yc.by_ = GA.map Gr.kp ++ g.kp :: GB.map Gr.kp := by rw [hV'.eg, ← hG2, hG, List.map_append, List.map_cons]
          have hgr : ripe txg g.kp.1 = true := hr
          refine ⟨_, ?_, gs ++ [g.kp], _, _, seen.push g.born, rfl, hV5, ok_by ho2 ?_, ?_, ?_, ?_, ?_, ⟨_, S⟩, E.keep (keep_cons rfl (keep_cons rfl (keep_cons rfl keep_nil)))⟩
          · exact Nat.lt_of_le_of_lt (unseen_drop GA GB g _) (by rw [← hG, hG2]; exact hlt)
          · rw [hyk, hye, List.map_append]; exact List.Sublist.append_left (List.sublist_cons_self ..) _
          · refine (backs_eq hyc g.ps _).trans ?_
            rw [List.flatMap_append, backs_append, List.flatMap_cons, List.flatMap_nil, List.append_nil]
            rfl
          · refine List.Perm.trans ?_ hpm
            show (gs ++ [g.kp] ++ ((GA ++ GB).map Gr.kp).filter fun g => ripe txg g.1).Perm _
            rw [hye, List.filter_append, List.filter_cons_of_pos (by exact hgr), List.map_append, List.filter_append, List.append_assoc, List.singleton_append]
            exact (List.perm_middle.symm).append_left gs
          · show ((GA ++ GB).map Gr.kp).filter (fun g => !ripe txg g.1) = _
            rw [← hfl, hye, List.map_append, List.filter_append, List.filter_append, List.filter_cons_of_neg (by rw [hgr]; simp)]
          · intro u hu hub
            have hu' : u ∈ GA ++ GB := hu
            rw [Array.toList_push, List.mem_append, List.mem_singleton] at hub
            refine hsn u ?_ (hub.resolve_right (hbz u hu'))
            rw [← hG2, hG]
            rcases List.mem_append.1 hu' with h | h
            · exact List.mem_append_left _ h
            · exact List.mem_append_right _ (List.mem_cons_of_mem _ h)
  -- unused annotation: if r3@x
end Go.Proofs.Ytenhebjhoicpjaa
