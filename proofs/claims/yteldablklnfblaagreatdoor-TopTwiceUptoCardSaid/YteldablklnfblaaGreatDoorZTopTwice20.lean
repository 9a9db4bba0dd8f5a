/-
  Texts put together (20).
-/
import Derived.Test.YteldablklnfblaaGreatDoorZTopTwice19
namespace Go.Proofs.YteldablklnfblaaGreatDoor
open Go.Sl Go.ChangeShapes Go.WideShapes Go.ChangeAt Go.RowKit Go.ChangeMaps
theorem sa:ownKnob Tryz.prog.godebug=none:=by kernel_rfl
theorem iG:laidOutB Tryz.prog=true:=by kernel_rfl
theorem qK (os:Os)(args:Array Value):laidMetH Tryz.prog Rows.topTwiceUptoRow.laid ((World.doorLaid Tryz.prog 14 os).forCall (fun _ _=>0) ⟨#[],args,[]⟩).memory :=
 laidMetH_of_parts3 (fuel:=8) (laidMet_of_run' 8 yZ yZ) yZ yZ
set_option maxRecDepth 100000 in
theorem nU (os:Os)(started:os.Started)(H:Type)(enc:TypeId×Value->H)(F:Stop.Interp) :
  ReturnsInHanded {} Tryz.checked os 3 .any ((Rows.OpenSpec.upto Rows.topTwiceSpec).preRow enc Tryz.prog Tryz.f3 Rows.topTwiceUptoRow.domain false Rows.topTwiceUptoRow.laid) (((Rows.OpenSpec.upto Rows.topTwiceSpec).at F).post enc Tryz.prog Tryz.f3 false true false false):=by
 refine returnsInHanded_of_row (C:=Tryz.checked) (s:=Rows.OpenSpec.upto Rows.topTwiceSpec) sa started yZ Tryz.func3
  (witness_row_at (enc:=enc) (C:=Tryz.checked) false (World.doorLaid Tryz.prog 14 os) #[.agg #[.int .i64 0,.int .i64 0,.int .i64 0],.slice none 0 0,.int .i64 0] rfl yZ yZ yZ
   (OpenSpec.preRow_of_cond 8 (x:=([.agg [.lit (.int .i64 0),.lit (.int .i64 0),.lit (.int .i64 0)],.nil,.lit (.int .i64 0)],[],[])) yZ yZ (fun k hk=>by cases hk;kernel_rfl) yZ (qK os _))) ?_
 intro W base args ds gs before acA hW _ acB hz hL _ _
 have hk:=acB _ rfl
 have V7:∀(j:Nat) t v,Tryz.f3.params[j]? = some t->args[j]? = some v->Value.okWide Tryz.prog W .any base t v:=acA
 have hW':=hW
 obtain ⟨p,q,hA0,hV,rfl,ZI,ek⟩:=hW
 have hA:DataW.TrodAll enc Tryz.prog W 0 (fun _=>true) true Tryz.f3.params.toList args.toList ds p:=hA0
 rw [Tryz.params3] at hA V7
 obtain ⟨v0,vs0,d0,ds0,p0,q0,RP,rfl,rfl,h0,r0⟩:=trodAll_cons hA
 obtain ⟨v1,vs1,d1,pQ,p1,q1,rfl,rfl,rfl,h1,r1⟩:=trodAll_cons r0
 obtain ⟨v2,vs2,d2,qQ,p2,q2,rfl,rfl,rfl,h2,r2⟩:=trodAll_cons r1
 obtain ⟨rfl,rfl,rfl⟩:=trodAll_nil r2
 obtain rfl:args=#[v0,v1,v2]:=by cases args;simp_all
 obtain ⟨rfl,rfl⟩:=trodVars_none hV
 obtain ⟨cs0,rfl,afc⟩:=okWide_struct Tryz.underlying23 (V7 0 _ v0 rfl rfl)
 obtain ⟨X0,rfl,g0,s0⟩:=((Bj V3)).afb h0 (afc.trans yZ) hz hk (j:=0) rfl rfl
 obtain ⟨X1,e1,g1,s1⟩:=((w9 (s:=7) (sz:=72) Tryz.underlying24 yZ dZ yZ V4 aay)).arg h1 (Mb Tryz.underlying24 (V7 1 _ v1 rfl rfl)) hz hk (j:=1) rfl rfl
 obtain ⟨X2,e2,g2,s2⟩:=((Bj (jf Tryz.underlying3))).arg h2 (VZ Tryz.underlying3 (V7 2 _ v2 rfl rfl)) hz hk (j:=2) rfl rfl
 simp only [List.cons.injEq,and_true] at e1 e2
 subst e1 e2
 refine Calls.mono (HO W hL X0 g0 s0 X1 g1 s1 X2 g2 s2) fun e W' ⟨v,he,hv,hT⟩ => ?_
 subst he hv
 exact ⟨_,rfl,HP iG hW' rfl (by intro t ht;rw [Tryz.params3] at ht;simp at ht;rcases ht with rfl | rfl | rfl <;> exact ⟨by kernel_rfl,of_decide_eq_true yZ⟩) rfl Tryz.underlying4 rfl (Ma hT)⟩
theorem tt2:mapsRowed Tryz.pinned.checked.prog=true:=by kernel_rfl
theorem tt9:(Rows.topTwiceUptoRow.inPlace==Tryz.pinned.checked.prog.inPlace 3)=true:=by kernel_rfl
theorem afd:(Rows.topTwiceUptoRow.unfollowed==Tryz.pinned.checked.prog.unfollowed 3)=true:=by kernel_rfl
theorem afe:(Rows.topTwiceUptoRow.recurses==Tryz.pinned.checked.prog.recurses 3)=true:=by kernel_rfl
theorem aff:(Rows.topTwiceUptoRow.named==Tryz.pinned.checked.prog.varsNamed 3)=true:=by kernel_rfl
theorem afg:(Rows.topTwiceUptoRow.plainKeys==Tryz.pinned.checked.prog.plainKeys)=true:=by kernel_rfl
theorem afh:Tryz.pinned.checked.prog.stopsHeard=true:=by kernel_rfl
theorem afi:Tryz.pinned.checked.prog.mayEnter=true:=by kernel_rfl
theorem afj:(Rows.topTwiceUptoRow.lifted==Tryz.pinned.checked.prog.liftsFinal)=true:=by kernel_rfl
theorem fy {a b:Bool}(h:a=true)(k:b=true):(a&&b)=true:=by rw [h,k];rfl
theorem sf:Rows.TopTwiceUptoSaid :=
 OpenClaim.holds_of_cond 3 Tryz.f3 rfl rfl rfl rfl rfl rfl rfl ⟨rfl,rfl,rfl,rfl,rfl⟩ rfl rfl rfl rfl rfl yZ Tryz.func3
  (fy (fy (fy (fy (fy (fy (fy (fy (fy (fy (fy (fy (fy (fy (fy (fy (fy (fy (fy (fy (fy (fy (fy (fy (fy (fy (fy (fy (fy (fy (fy yZ iG) tt2) yZ) yZ) yZ) yZ) yZ) yZ) tt9) afd) afe) aff) yZ) yZ) yZ) yZ) yZ) yZ) yZ) yZ) yZ) afg) yZ) afh) afi) afj) yZ) yZ) yZ) yZ) yZ)
  (of_decide_eq_true yZ) (by unfold Func.isWrapper;first | (rw [if_pos (by decide +kernel)];kernel_rfl) | (rw [if_neg (by decide +kernel)];exact ⟨rfl,rfl⟩))
  (fun os started H enc _ F=>by rw [OpenClaim.pre_eq_preRow];exact nU os started H enc F)
end Go.Proofs.YteldablklnfblaaGreatDoor
