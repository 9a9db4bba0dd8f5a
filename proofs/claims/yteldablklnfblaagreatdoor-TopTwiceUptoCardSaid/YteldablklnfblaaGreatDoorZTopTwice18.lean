/-
  Texts put together (18).
-/
import Derived.Test.YteldablklnfblaaGreatDoorZTopTwice17
namespace Go.Sl
set_option maxRecDepth 10000
theorem Rc {d d':au}(e:d'.nv=d.nv):d'.no=d.no/\d'.b=d.b/\d'.born=d.born/\d'.gE=d.gE:=⟨show d'.nv.no=d.nv.no by rw [e],show d'.nv.b=d.nv.b by rw [e],show d'.nv.born=d.nv.born by rw [e],show d'.nv.gE=d.nv.gE by rw [e]⟩
theorem aaq {l l':List au}(e:l'.map au.nv=l.map au.nv)(k:Int):(ey l' k).map au.nv=(ey l k).map au.nv:=by
 induction l generalizing l' with
 | nil =>
  obtain rfl:l'=[]:=by simpa using e
  rfl
 | cons x r ih =>
  cases l' with
  | nil=>simp at e
  | cons y s =>
   simp only [List.map_cons,List.cons.injEq] at e
   obtain ⟨h1,h2⟩:=e
   rw [dV,dV,(Rc h1).1]
   split
   ·simp only [Option.map_some,h1]
   ·exact ih h2
theorem dW.nv {pm:List dt}{o:Ob}{d d':au}(h:dW pm o d)(e:d'.nv=d.nv):dW pm o d':=by
 obtain ⟨-,h2,h3,h4⟩:=Rc e
 exact ⟨h.us,by rw [h2];exact h.size,h.sz,h.fp,fun j=>by rw [h2];exact h.byte j,fun i hi=>by rw [h4];exact h.gE i hi,fun i hi ht=>by rw [h3];exact h.born i hi (by rw [<-h4];exact ht)⟩
theorem bF.nv {pm:List dt}{all:List (Int×Ob)}{l l':List au}(h:bF pm all l)(e:l'.map au.nv=l.map au.nv):bF pm all l':=by
 refine ⟨fun k => ?_,h.kn, ?_,fun d hd => ?_⟩
 ·have hk:=aaq e k
  rcases h.keys k with ⟨h1,h2⟩ | ⟨o,d,h1,h2,h3,h4⟩
  ·rw [h2] at hk
   exact .inl ⟨h1,by simpa using hk⟩
  ·rw [h2] at hk
   cases hl:ey l' k with
   | none=>rw [hl] at hk;simp at hk
   | some d' =>
    rw [hl] at hk
    exact .inr ⟨o,d',h1,rfl,h3,h4.nv (Option.some.inj hk)⟩
 ·have h1:(l.map au.nv).Pairwise fun a b=>a.no<b.no:=List.pairwise_map.2 h.ord
  rw [<-e] at h1
  have h2:=List.pairwise_map.1 h1
  exact h2
 ·have h1:d.nv∈l.map au.nv:=by rw [<-e];exact List.mem_map_of_mem hd
  obtain ⟨d',h2,h3⟩:=List.mem_map.1 h1
  rw [<-(Rc h3).1]
  exact h.no d' h2
theorem wT.nv {pm:List dt}{cs:List (Int×Ob)}{mo:Ob}{l l':List au}(h:wT pm cs mo l)(e:l'.map au.nv=l.map au.nv):wT pm cs mo l':=⟨h.rel.nv e,h.cl,h.mc,h.mi,h.JY⟩
theorem wW {l l':List au}(e:l'.map au.nv=l.map au.nv):aT l'=aT l:=by
 have:∀l:List au,aT l=((l.map au.nv).map fun o=>cost o.b.length).sum:=fun l=>by rw [List.map_map];rfl
 rw [this,this,e]
theorem ed (x:au)(r:List au):aT (x :: r)=cost x.b.length+aT r:=rfl
theorem wX (x:au)(r:List au)(k:Int):iC (x :: r) k=if (x.no:Int)=k then cost x.b.length else iC r k:=by
 unfold iC
 rw [dV]
 split
 ·rename_i h;split at h <;> simp_all
 ·rename_i h;split at h <;> simp_all
theorem yT (k:Nat):∀l:List au,aT (l.filter fun x=>decide (x.no≠k))+iC l k<=aT l
 | []=>by simp [aT,iC,ey]
 | x :: r=>by
  have ih:=yT k r
  rw [wX,ed]
  by_cases c:x.no=k
  ·rw [List.filter_cons_of_neg (by simp [c]),if_pos oZ];omega
  ·rw [List.filter_cons_of_pos (by simp [c]),if_neg oZ,ed];omega
theorem yU (o:au):∀l:List au,aT (dF o false l)+iC l o.no<=aT l+cost o.b.length
 | []=>by simp [dF,aT,iC,ey]
 | x :: r=>by
  have ih:=yU o r
  have hf:=yT o.no r
  rw [dF,wX,ed]
  by_cases c:o.no<=x.no
  ·rw [if_pos ⟨rfl,c⟩,decide_eq_true c,Bool.false_or,rZ,List.singleton_append,ed]
   by_cases c2:x.no=o.no
   ·rw [if_pos c2,if_pos oZ,List.nil_append];omega
   ·rw [if_neg c2,if_neg oZ,List.singleton_append,ed];omega
  ·rw [if_neg (fun h=>c h.2),decide_eq_false c,Bool.false_or,List.nil_append,if_neg oZ,if_neg oZ,List.singleton_append,ed];omega
theorem LS {l:List au}{o:au}{k:Int}{z room:Nat}(h:cA l k z room=true)(hk:(o.no:Int)=k)(hz:o.b.length=z):aT (dF o false l)<=room:=by
 have h1:=yU o l
 rw [hz,hk] at h1
 have h2:=of_decide_eq_true h
 omega
theorem yV:∀(l:List au) (i:Nat),aT (l.take i++l.drop (i+1))<=aT l
 | [],i=>by simp [aT]
 | x :: r,0=>by rw [List.take_zero,List.nil_append,List.drop_succ_cons,List.drop_zero,ed];omega
 | x :: r,i+1=>by
  have ih:=yV r i
  rw [List.take_succ_cons,List.drop_succ_cons,List.cons_append,ed,ed];omega
theorem wY (T:Nat)(l:List au):aT (l.map (lO T))=aT l:=by
 unfold aT
 rw [List.map_map]
 congr 1
 refine List.map_congr_left fun d _ => ?_
 simp only [Function.comp]
 rw [show (lO T d).b=d.b from (dq _ d 64).2.1]
theorem Re:∀(l:List Nat) (R:Rk),R.off=false->∀w∈(R.run (l.map .f)).ws,w∈R.ws/\w.d∉l
 | [],R,_,w,h=>⟨h,by simp⟩
 | d :: l,R,ho,w,h=>by
  rw [List.map_cons,Rk.eZ] at h
  have e:R.ev (.f d)={ R with ds:=R.ds.modify d fun x=>{ x with fo:=x.now },ws:=R.ws.filter fun w=>w.d != d }:=by
   show (if R.off then R else _)=_
   rw [if_neg (by simp [ho])]
  obtain ⟨h1,h2⟩:=Re l (R.ev (.f d)) (by rw [e];exact ho) w h
  rw [e] at h1
  obtain ⟨h3,h4⟩:=List.mem_filter.1 h1
  exact ⟨h3,by rw [List.mem_cons];exact fun hc=>hc.elim (fun e=>by simp [e] at h4) h2⟩
theorem qF {R:Rk}{ls:List (Option Lv)}(hI:wC ls)(hR:(R.run (iH ls)).Ok)(hd:(R.run (iH ls)).ds.length=ls.length)(ho:R.off=false):(R.run (iH ls)).ws=[]:=by
 rw [Hh hI] at *
 refine List.eq_nil_iff_forall_not_mem.2 fun w hw => ?_
 obtain ⟨h1,h2⟩:=Re _ R ho w hw
 have h3:=(hR.ws w hw).1
 refine h2 (List.mem_range.2 ?_)
 unfold Rk.size at h3
 rcases Nat.lt_or_ge w.d ls.length with c | c
 ·omega
 ·rw [List.getElem?_eq_none oZ] at h3;simp at h3
theorem Vk {R:Rk}(hR:R.Ok)(i a:Nat):(R.now i a).length=128\/R.now i a=[]:=by
 unfold Rk.now
 cases h:R.ds[i]? with
 | none=>exact .inr rfl
 | some d =>
  simp only [Option.bind_some]
  cases h2:d.now[a]? with
  | none=>exact .inr rfl
  | some s=>exact .inl ((hR.sec d (List.mem_of_getElem? h)).2 s (List.mem_of_getElem? h2))
theorem Rf:gB []=false:=by
 unfold gB
 rw [show decide (1<=fv []/\fv []<=281474976710656)=false from decide_eq_false fun h=>by
  have e:fv []=0:=by decide
  omega,Bool.and_false]
theorem Rh {R:Rk}(hR:R.Ok)(ls:List (Option Lv))(k:Nat):(tO R ls k).length=88:=by
 have:∀(l:List (Option Lv)) (b:Nat×List UInt8),b.2.length=88->(l.foldl (fun b o=>match o with | some x=>wx b (R.now x.i (18+k)) | none=>b) b).2.length=88:=by
  intro l
  induction l with
  | nil=>intro b hb;exact hb
  | cons o l ih =>
   intro b hb
   rw [List.foldl_cons]
   refine ih _ ?_
   rcases o with _ | x
   ·exact hb
   ·simp only [wx]
    split
    ·rename_i h
     rcases Vk hR x.i (18+k) with h1 | h1
     ·exact zZ h1
     ·rw [h1,Rf] at h;simp at h
    ·exact hb
 unfold tO
 split
 ·simp
 ·unfold qh;exact this _ _ (by simp)
theorem Ri {tp:Tp}(h:tp.qk){k:Nat}(hk:k<tp.leaves.toNat):uX ⟨11,[tp],0,k⟩=0/\eU.Ok ⟨11,[tp],0,k⟩:=by
 obtain ⟨h1,h2,h3,h4⟩:=h
 have hm:tp.made:=⟨h1,by omega,by omega⟩
 refine ⟨if_pos ⟨by simp,by simp,by simp,by simp,by simp, ?_,fun t ht=>by rw [List.mem_singleton.1 ht];exact hm⟩,by show 11<18446744073709551616;decide,by simp,by simp only;omega,fun t ht=>by rw [List.mem_singleton.1 ht];exact ⟨by omega,by omega,by omega⟩⟩
 show (k:Int)<tp.leaves
 omega
section
variable {pr:Bool}{n:Nat}{R:Rk}{pm:List dt}{ls:List (Option Lv)}
theorem db.live {o:Ob}{N:Nat}(h:db pm N o)(hc:o.clean=true):∀x∈ej o,∃e∈pm,e.x=x:=fun x hx=>by
 obtain ⟨h1,h0⟩:=gf.1 hx
 rcases List.mem_append.1 h1 with h1 | h1
 ·rcases h.ptr x h1 with c | c
  ·exact absurd c h0
  ·exact c
 ·rcases (h.cl hc).2.2.2 x h1 with c | c
  ·exact absurd c h0
  ·exact c
theorem wT.has {cs:List (Int×Ob)}{mo:Ob}{l:List au}(h:wT pm cs mo l){k:Int}{o:Ob}(hk:aH cs k=some o):∃d,ey l k=some d/\db pm (cY o.size 1024) o/\dW pm o d/\o.clean=true:=by
 rcases h.rel.keys k with ⟨c, -⟩ | ⟨o',d,c,c2,c3,c4⟩
 ·rw [hk] at c;cases c
 ·rw [hk] at c;cases c
  exact ⟨d,c2,c3,c4,h.cl k o hk⟩
structure Opn (pr:Bool)(n:Nat)(R:Rk)(ls:List (Option Lv))(pm:List dt)(cs:List (Int×Ob))(mo:Ob):Prop where
 root:rW R ls pr n (fg pm) mo.root
 Sj:∀x∈(fY (fg pm) mo.root).ay,x≠ah->K0 R ls pr n x (j2 pm x)
 so:∀s∈slotsOf cs,s.Ok
 JY:(List.range 8).flatMap ((fY (fg pm) mo.root).fO (j2 pm))=fJ (slotsOf cs)
 ob:∀s∈slotsOf cs,s.used=true->rW R ls pr n (fg pm) s.root
 op:OpP (bD pr ls.length n) (aN pr ls.length 1024) (AR (fg pm) (fY (fg pm) mo.root) (slotsOf cs))
theorem wT.opn (hI:wC ls)(hn:324<=n)(hw:1<=ls.length/\ls.length<=5)(hp:pr=true->3<=ls.length)(bu:∀i,i<ls.length->R.size i=n){cs:List (Int×Ob)}{mo:Ob}{l:List au}(h:wT pm cs mo l)(fZ:dU pr ls.length n R pm):Opn pr n R ls pm cs mo:=by
 have hb:=h.back fZ
 refine ⟨Std.ld hI hn hw hp bu fZ (h.mi.cl h.mc).2.1,HD hI hn hw hp bu fZ hb.mi,fun s hs=>(h.used hs).1,h.ae5 fZ,fun s hs hu => ?_,Ra fZ fun x hx => ?_⟩
 ·obtain ⟨k,o,h1,rfl⟩:=(h.used hs).2 hu
  obtain ⟨d, -,h2, -,h4⟩:=h.has h1
  exact Std.ld hI hn hw hp bu fZ (h2.cl h4).2.1
 ·rcases (h.live fZ x).1 hx with c | ⟨k,o,h1,c⟩
  ·exact h.mi.live h.mc x c
  ·obtain ⟨d, -,h2, -,h4⟩:=h.has h1
   exact h2.live h4 x c
end
structure Qt (pool:Nat)(tp:Tp)(n w:Nat)(ring:Nat->Option Ub)(R:Rk):Prop where
 on:R.on
 sz:∀i,i<w->R.live i/\R.size i=n
 lb:∀k,k<w->R.now k (fC n 0)=whole (dL ⟨pool,[tp],0,k⟩)
 rg:∀i,i<w->iN R n i fun _ j=>ring j
 q:∀i,i<w->∀a,a<18\/274<=a->R.pl i a=R.now i a
theorem r5 {n k j:Nat}(hk:k<4)(hj:j<8)(hn:324<=n):fC n k+1+j<n/\(fC n k+1+j<18\/n - 18<=fC n k+1+j)/\(fC n k+1+j<18\/274<=fC n k+1+j)/\fC n k+1+j≠0:=by
 obtain rfl | rfl | rfl | rfl:k=0\/k=1\/k=2\/k=3:=by omega
 all_goals
  simp only [fC]
  omega
theorem aar {n k j k' j':Nat}(hk:k<4)(rG:k'<4)(hj:j<8)(zo:j'<8)(hn:324<=n)(h:j≠j'):fC n k+1+j≠fC n k'+1+j':=by
 obtain rfl | rfl | rfl | rfl:k=0\/k=1\/k=2\/k=3:=by omega
 all_goals
  obtain rfl | rfl | rfl | rfl:k'=0\/k'=1\/k'=2\/k'=3:=by omega
  all_goals
   simp only [fC]
   omega
theorem iN.congr {R R':Rk}{n i:Nat}{ring:Nat->Nat->Option Ub}(hn:324<=n)(h:iN R n i ring)(e:∀a,a<18\/n - 18<=a->R'.now i a=R.now i a):iN R' n i ring:=fun k j hk hj=>by
 have:=h k j hk hj
 rw [e _ (r5 hk hj hn).2.1]
 exact this
section
variable {ls:List (Option Lv)}(hI:wC ls)
include hI
theorem ik {R:Rk}(i a:Nat):(R.run (iH ls)).now i a=R.now i a:=by
 rw [Hh hI]
 exact bJ fun b h=>by
  obtain ⟨x, -,hx⟩:=List.mem_map.1 h
  cases hx
theorem HF {R:Rk}(bZ:R.on){i:Nat}(hi:i<ls.length)(a:Nat):(R.run (iH ls)).pl i a=R.now i a:=by
 rw [Hh hI]
 exact Qi bZ (List.mem_range.2 hi)
theorem Qt.mark {pool:Nat}{tp:Tp}{n:Nat}{ring:Nat->Option Ub}{R R2:Rk}(hn:324<=n)(h:Qt pool tp n ls.length ring R)(ho1:R2.on)(hz:∀i,R2.size i=R.size i)(hv:∀i,R2.live i↔R.live i)(hg:∀i a,a<18\/n - 18<=a->R2.now i a=R.now i a){u:Ub}(hu:zP u=0/\u.Ok) :
  Qt pool tp n ls.length (upd ring (u.txg % 8) (some u)) ((R2.run (oM n ls u)).run (iH ls))/\(∀i a,i<ls.length->((R2.run (oM n ls u)).run (iH ls)).pl i a=((R2.run (oM n ls u)).run (iH ls)).now i a) /\
   ∀i a,(18<=a/\a<n - 18)->((R2.run (oM n ls u)).run (iH ls)).now i a=R2.now i a:=by
 have Su:(R2.run (oM n ls u)).on:=ho1.run _
 have hm8:u.txg % 8<8:=Nat.mod_lt _ oZ
 have aas:∀i a,(∀k,k<4->a≠fC n k+1+u.txg % 8)->((R2.run (oM n ls u)).run (iH ls)).now i a=R2.now i a:=fun i a ha=>by
  rw [ik hI,bJ (fun b hb=>by
   obtain ⟨-, -,k,hk,e⟩:=(AI hI).1 hb
   exact ha k hk e)]
 have hall:∀i a,i<ls.length->((R2.run (oM n ls u)).run (iH ls)).pl i a=((R2.run (oM n ls u)).run (iH ls)).now i a:=fun i a hi=>by
  rw [HF hI Su hi,ik hI]
 have bu:∀i,((R2.run (oM n ls u)).run (iH ls)).size i=R.size i:=fun i=>by rw [Rk.dj,Rk.dj,hz]
 refine ⟨⟨Su.run _,fun i hi=>⟨?_,by rw [bu];exact (h.sz i hi).2⟩,fun k hk => ?_,fun i hi k j hk hj => ?_,fun i hi a _=>hall i a hi⟩,hall,fun i a ha=>aas i a fun k hk => ?_⟩
 ·rw [Rk.eh,Rk.eh,hv]
  exact (h.sz i hi).1
 ·rw [aas k (fC n 0) (fun k' rG=>fun c=>(r5 rG hm8 hn).2.2.2 (by rw [<-c];rfl)),hg k _ (.inl (by simp only [fC];omega))]
  exact h.lb k hk
 ·by_cases hj8:j=u.txg % 8
  ·subst hj8
   have e:upd ring (u.txg % 8) (some u) (u.txg % 8)=some u:=if_pos rfl
   simp only [e]
   refine ⟨?_,hu⟩
   rw [ik hI]
   refine hY ho1 (by rw [hz,(h.sz i hi).2];exact (r5 hk hj hn).1) (fun b' hb=>((AI hI).1 hb).2.1) ((AI hI).2 ⟨hi,rfl,k,hk,rfl⟩)
  ·have e:upd ring (u.txg % 8) (some u) j=ring j:=if_neg hj8
   simp only [e]
   have:=h.rg i hi k j hk hj
   rw [aas i _ (fun k' rG=>aar hk rG hj hm8 hn hj8),hg i _ (r5 hk hj hn).2.1]
   exact this
 ·have:=r5 hk hm8 hn
  omega
theorem Qt.HG {pool:Nat}{tp:Tp}{n:Nat}{ring:Nat->Option Ub}{R R2:Rk}(hn:324<=n)(h:Qt pool tp n ls.length ring R)(hg:qC n R R2){u:Ub}(hu:zP u=0/\u.Ok) :
  Qt pool tp n ls.length (upd ring (u.txg % 8) (some u)) (((R2.run (iH ls)).run (oM n ls u)).run (iH ls))/\(∀i a,i<ls.length->(((R2.run (iH ls)).run (oM n ls u)).run (iH ls)).pl i a=(((R2.run (iH ls)).run (oM n ls u)).run (iH ls)).now i a) /\
   ∀i a,(18<=a/\a<n - 18)->(((R2.run (iH ls)).run (oM n ls u)).run (iH ls)).now i a=R2.now i a:=by
 obtain ⟨h1,h2,h3⟩:=h.mark hI hn (R2:=R2.run (iH ls)) (hg.on.run _) (fun i=>by rw [Rk.dj,hg.size]) (fun i=>by rw [Rk.eh,hg.live]) (fun i a ha=>by rw [ik hI,hg.now i a oZ]) hu
 exact ⟨h1,h2,fun i a ha=>by rw [h3 i a ha,ik hI]⟩
omit hI in
theorem Qt.log {pool w:Nat}{tp:Tp}{n:Nat}{ring:Nat->Option Ub}{R R2:Rk}(hn:324<=n)(h:Qt pool tp n w ring R)(hg:Jf R R2):Qt pool tp n w ring R2:=by
 refine ⟨hg.on,fun i hi=>⟨(hg.live i).2 (h.sz i hi).1,by rw [hg.size];exact (h.sz i hi).2⟩,fun k hk => ?_,fun i hi=>(h.rg i hi).congr hn fun a ha=>hg.now i a oZ,fun i hi a ha=>by rw [hg.pl,hg.now i a ha];exact h.q i hi a ha⟩
 rw [hg.now k _ (.inl (by simp only [fC];omega))]
 exact h.lb k hk
theorem Qt.flush {pool:Nat}{tp:Tp}{n:Nat}{ring:Nat->Option Ub}{R:Rk}(hn:324<=n)(h:Qt pool tp n ls.length ring R):Qt pool tp n ls.length ring (R.run (iH ls)):=by
 refine ⟨h.on.run _,fun i hi=>⟨(Rk.eh ..).2 (h.sz i hi).1,by rw [Rk.dj];exact (h.sz i hi).2⟩,fun k hk=>by rw [ik hI];exact h.lb k hk,fun i hi=>(h.rg i hi).congr hn fun a ha=>ik hI i a,fun i hi a _=>by rw [HF hI h.on hi,ik hI]⟩
omit hI in
theorem Qt.xi {pool:Nat}{tp:Tp}{n:Nat}{ring:Nat->Option Ub}{R:Rk}(hn:324<=n)(h:Qt pool tp n ls.length ring R)(hR:R.Ok):Qt pool tp n ls.length ring R.xi:=by
 refine ⟨ZM,fun i hi=>⟨Qj.2 (h.sz i hi).1,by rw [Qk hR];exact (h.sz i hi).2⟩,fun k hk => ?_,fun i hi=>(h.rg i hi).congr hn fun a ha => ?_,fun i hi a _=>by rw [ZL,ij]⟩
 ·rw [ij,h.q k hk _ (.inl (by simp only [fC];omega))];exact h.lb k hk
 ·rw [ij,h.q i hi a oZ]
end
structure qG (pool T:Nat)(u:Ub)(ring:Nat->Option Ub):Prop where
 top:ring (T % 8)=some u
 tx:u.txg=T
 one:1<=T
 pl:u.pool=pool
 all:∀j v,ring j=some v->j<8/\v.pool=pool/\v.txg<=T/\v.txg % 8=j
section
variable {pool T:Nat}{u:Ub}{ring:Nat->Option Ub}
theorem qG.first {v:Ub}(hp:v.pool=pool)(ht:v.txg=1):qG pool 1 v (upd (fun _=>none) (v.txg % 8) (some v)):=by
 refine ⟨by rw [ht];rfl,ht,Nat.le_refl _,hp,fun j x h => ?_⟩
 unfold upd at h
 split at h
 ·cases h;exact ⟨by omega,hp,by omega,by omega⟩
 ·cases h
theorem qG.next (h:qG pool T u ring){v:Ub}(hp:v.pool=pool)(ht:v.txg=T+1):qG pool (T+1) v (upd ring (v.txg % 8) (some v)):=by
 refine ⟨by rw [ht];exact if_pos rfl,ht,by omega,hp,fun j x hx => ?_⟩
 unfold upd at hx
 split at hx
 ·cases hx;exact ⟨by omega,hp,by omega,by omega⟩
 ·obtain ⟨h1,h2,h3,h4⟩:=h.all j x hx
  exact ⟨h1,h2,by omega,h4⟩
theorem qG.again (h:qG pool T u ring):upd ring (u.txg % 8) (some u)=ring:=by
 funext j
 unfold upd
 split
 ·subst j;rw [h.tx];exact h.top.symm
 ·rfl
theorem qG.ae8 (h:qG pool T u ring){w:Nat}(hw:1<=w){x:Ub}(hb:mN (fun _ _ j=>ring j) pool w x):x=u:=by
 have hu:ME (fun _ _ j=>ring j) pool w u:=⟨0,0,T % 8,by omega,by omega,Nat.mod_lt _ oZ,h.top,h.pl⟩
 rcases hb with ⟨-,hn⟩ | ⟨⟨i,k,j, -, -, -,hj, -⟩, -,hm⟩
 ·exact absurd hu (hn u)
 ·have h1:=hm u hu
  have hj:ring j=some x:=hj
  obtain ⟨-, -,h3,h4⟩:=h.all j x hj
  have e:x.txg=T:=by have:=h.tx;omega
  rw [e] at h4
  subst h4
  have:=h.top
  rw [hj] at this
  exact Option.some.inj this
theorem qG.jY (h:qG pool T u ring):((List.range 8).filterMap ring).length<=19/\∀j v,ring j=some v->v∈(List.range 8).filterMap ring:=by
 refine ⟨Nat.le_trans (List.length_filterMap_le ..) (by simp),fun j v hv => ?_⟩
 exact List.mem_filterMap.2 ⟨j,List.mem_range.2 (h.all j v hv).1,hv⟩
end
theorem ez.congr {R R':Rk}{w no:Nat}{G:List UInt8}(h:ez R w no G)(e:∀i a,i<w->18<=a->a<274->R'.now i a=R.now i a):ez R' w no G:=by
 refine ⟨h.len,fun k hk => ?_⟩
 obtain ⟨s,h1,h2⟩:=h.sec k hk
 exact ⟨s,fun i hi=>by rw [e i _ hi oZ oZ];exact h1 i hi,h2⟩
theorem ez.mono {R:Rk}{w no ET:Nat}{G:List UInt8}(h:ez R w no G)(hn:no<=ET):ez R w ET G:=by
 refine ⟨h.len,fun k hk => ?_⟩
 obtain ⟨s,h1,h2⟩:=h.sec k hk
 refine ⟨s,h1, ?_⟩
 rcases h2 with ⟨a,b,c⟩ | h2
 ·exact .inl ⟨a,by omega,c⟩
 ·exact .inr h2
section
variable {ls:List (Option Lv)}(hI:wC ls)
include hI
theorem LU {pool T no:Nat}{tp:Tp}{n:Nat}{ring:Nat->Option Ub}{R:Rk}{u:Ub}{G:List UInt8}(hw:1<=ls.length/\ls.length<=5)(hn:324<=n)(hq:Qt pool tp n ls.length ring R)(hr:qG pool T u ring)(hu:zP u=0/\u.Ok)(hG:ez R ls.length no G)(eD:1<=no/\no+22528<=281474976710656) :
  Qt pool tp n ls.length ring (QL n ls no u R)/\ez (QL n ls no u R) ls.length (bP ls 22528 R no 0 (aX R ls)).2 G/\(∀i a,i<ls.length->(QL n ls no u R).pl i a=(QL n ls no u R).now i a)/\(∀i a,274<=a/\a<n - 18->(QL n ls no u R).now i a=R.now i a) /\
   no<=(bP ls 22528 R no 0 (aX R ls)).2/\(bP ls 22528 R no 0 (aX R ls)).2<=no+22528/\(bP ls 22528 R no 0 (aX R ls)).1.ws.length<=R.ws.length+5*22528/\(bP ls 22528 R no 0 (aX R ls)).1.on/\∀i,(bP ls 22528 R no 0 (aX R ls)).1.size i=R.size i/\((bP ls 22528 R no 0 (aX R ls)).1.live i↔R.live i):=by
 rw [hG.all hI hw.1 hq.on.2]
 obtain ⟨h1,h2,h3,h4,h5⟩:=Jg hI hw 22528 R no G 0 G hq.on (fun i hi=>by rw [(hq.sz i hi).2];exact hn) hG (by rw [hG.len];omega) (by rw [hG.len];omega) eD.1 eD.2
 have e:sL G 0 G=G:=by simp [sL]
 rw [e] at h2
 unfold QL
 rw [hG.all hI hw.1 hq.on.2]
 generalize bP ls 22528 R no 0 G=X at *
 obtain ⟨m1,m2,m3⟩:=(hq.log hn h1).mark hI hn (R2:=X.1) h1.on (fun _=>rfl) (fun _=>Iff.rfl) (fun _ _ _=>rfl) hu
 rw [hr.again] at m1
 exact ⟨m1,h2.congr fun i a _ ha hb=>m3 i a oZ,m2,fun i a ha=>by rw [m3 i a oZ,h1.now i a oZ],h3,h4,h5,h1.on,fun i=>⟨h1.size i,h1.live i⟩⟩
end
theorem Jo {R:Rk}{i z B:Nat}(hB:1<=B)(hz:z<=B):∀k,(∀q,q<k->gB (R.now i (18+q))=true->fv (R.now i (18+q))<B)->z<=yC R i z k/\yC R i z k<=B/\∀q,q<k->gB (R.now i (18+q))=true->fv (R.now i (18+q))<yC R i z k
 | 0,_=>by rw [yC];exact ⟨Nat.le_refl _,hz,fun q h=>by omega⟩
 | k+1,h=>by
  obtain ⟨h1,h2,h3⟩:=Jo hB hz k fun q hq=>h q oZ
  have hk:=h k oZ
  rw [yC]
  refine ⟨by omega, ?_,fun q hq hs => ?_⟩
  ·split
   ·have:=hk (by assumption);omega
   ·omega
  ·rcases (show q<k\/q=k by omega) with c | rfl
   ·have:=h3 q c hs;omega
   ·rw [if_pos hs];omega
section
variable {ls:List (Option Lv)}(hI:wC ls)
include hI
theorem Vl {R:Rk}{no:Nat}{G:List UInt8}(h:ez R ls.length no G)(eD:1<=no)(hw:1<=ls.length):ez R ls.length (p9 R ls 1 ls.length) G/\1<=p9 R ls 1 ls.length/\p9 R ls 1 ls.length<=no:=by
 have hs:∀i,i<ls.length->∀q,q<256->gB (R.now i (18+q))=true->fv (R.now i (18+q))<no:=fun i hi q hq hl=>by
  obtain ⟨s,h1,h2⟩:=h.sec q hq
  rw [h1 i hi] at hl ⊢
  rcases h2 with ⟨-,b, -⟩ | ⟨b, -⟩
  ·exact b
  ·rw [b] at hl;cases hl
 have key:∀j,j<=ls.length->1<=p9 R ls 1 j/\p9 R ls 1 j<=no/\∀i,i<j->∀q,q<256->gB (R.now i (18+q))=true->fv (R.now i (18+q))<p9 R ls 1 j:=by
  intro j
  induction j with
  | zero=>intro _;rw [p9];exact ⟨Nat.le_refl _,eD,fun i h=>by omega⟩
  | succ j ih =>
   intro hj
   obtain ⟨i1,i2,i3⟩:=ih oZ
   obtain ⟨x,hx,u7⟩:=hI j oZ
   have e:p9 R ls 1 (j+1)=yC R x.i (p9 R ls 1 j) 256:=by rw [p9,hx]
   rw [e,u7]
   obtain ⟨k1,k2,k3⟩:=Jo eD i2 256 fun q hq hl=>hs j oZ q hq hl
   refine ⟨by omega,k2,fun i hi q hq hl => ?_⟩
   rcases (show i<j\/i=j by omega) with c | rfl
   ·have:=i3 i c q hq hl;omega
   ·exact k3 q hq hl
 obtain ⟨g1,g2,g3⟩:=key _ (Nat.le_refl _)
 refine ⟨⟨h.len,fun k hk => ?_⟩,g1,g2⟩
 obtain ⟨s,h1,h2⟩:=h.sec k hk
 refine ⟨s,h1, ?_⟩
 rcases h2 with ⟨a,b,c⟩ | h2
 ·have:=g3 0 oZ k hk (by rw [h1 0 oZ];exact a)
  rw [h1 0 oZ] at this
  exact .inl ⟨a,this,c⟩
 ·exact .inr h2
end
structure Dsk (tp:Tp)(pr:Bool)(n w q:Nat)(R:Rk)(no:Nat)(u:Ub)(l:List au)(G:List UInt8)(pm:List dt)(cs:List (Int×Ob))(mo:Ob)(ring:Nat->Option Ub):Prop where
 qt:Qt 11 tp n w ring R
 rg:qG 11 u.txg u ring
 ub:zP u=0/\u.Ok
 rt:u.root=mo.root
 RU:wT pm cs mo l
 lv:∀x,(x∈ej mo\/∃k o,aH cs k=some o/\x∈ej o)↔∃e∈pm,e.x=x
 po:dU pr w n R pm
 jY:pm.length<=q
 ud:aT l+10<=q
 lg:ez R w no G
structure qH (tp:Tp)(pr:Bool)(n w q:Nat)(R:Rk)(no:Nat)(u:Ub)(all:List (Int×Ob))(od:List (Int×List Pt))(x:Rm)(lM lD:List au)(GM SD:List UInt8)(pm:List dt)(cs:List (Int×Ob))(mo:Ob)(ring:Nat->Option Ub):Prop where
 dk:Dsk tp pr n w q R no u lD GM pm cs mo ring
 rel:bF pm all lM
 al:Q1 (bD pr w n) (aN pr w 1024) q u.txg x pm
 oe:∀x,x∈bc od↔∃e∈pm,e.x=x
 ol:∀e∈od,e.2.length<=200
 um:aT lM+10<=q
 ls:ez R.xi w no SD
section
variable {tp:Tp}{pr:Bool}{n q:Nat}{R:Rk}{no:Nat}{u:Ub}{all:List (Int×Ob)}{od:List (Int×List Pt)}{x:Rm}{lM lD:List au}{GM SD:List UInt8}{pm:List dt}{cs:List (Int×Ob)}{mo:Ob}{ring:Nat->Option Ub}
theorem qH.aco {w:Nat}(h:qH tp pr n w q R no u all od x lM lD GM SD pm cs mo ring){EU:List (Int×Ob)}{l':List au}(hr:bF pm EU l')(hu:aT l'+10<=q):qH tp pr n w q R no u EU od x l' lD GM SD pm cs mo ring:={ h with rel:=hr,um:=hu }
theorem qH.nvD {w:Nat}(h:qH tp pr n w q R no u all od x lM lD GM SD pm cs mo ring){l':List au}(e:l'.map au.nv=lD.map au.nv):qH tp pr n w q R no u all od x lM l' GM SD pm cs mo ring:={ h with dk:={ h.dk with RU:=h.dk.RU.nv e,ud:=by rw [wW e];exact h.dk.ud } }
theorem qH.nvM {w:Nat}(h:qH tp pr n w q R no u all od x lM lD GM SD pm cs mo ring){l':List au}(e:l'.map au.nv=lM.map au.nv):qH tp pr n w q R no u all od x l' lD GM SD pm cs mo ring:=h.aco (h.rel.nv e) (by rw [wW e];exact h.um)
variable {ls:List (Option Lv)}(hI:wC ls)(hn:324<=n/\n<=2048)(hw:1<=ls.length/\ls.length<=5)(hp:pr=true->3<=ls.length)
include hI hn hw hp
theorem qH.ae9 (h:qH tp pr n ls.length q R no u all od x lM lD GM SD pm cs mo ring){a m:Nat}{b:List UInt8}(hb:b.length=m)(ha:a+m<=22528)(eD:1<=no/\no+m<=281474976710656) :
  qH tp pr n ls.length q (bP ls m R no a b).1 (bP ls m R no a b).2 u all od x lM lD (sL GM a b) SD pm cs mo ring/\(bP ls m R no a b).1.on/\no<=(bP ls m R no a b).2/\(bP ls m R no a b).2<=no+m/\(bP ls m R no a b).1.ws.length<=R.ws.length+5*m:=by
 obtain ⟨h1,h2,h3,h4,h5⟩:=Jg hI hw m R no GM a b h.dk.qt.on (fun i hi=>by rw [(h.dk.qt.sz i hi).2];exact hn.1) h.dk.lg oZ oZ eD.1 eD.2
 exact ⟨{ h with
  dk:={ h.dk with qt:=h.dk.qt.log hn.1 h1,po:=h.dk.po.congr hn.1 hw hp fun i hi a h1' h2'=>h1.now i a (.inr h1'),lg:=h2 }
  ls:=(h.ls.congr fun i a hi _ _=>by rw [ij,ij,h1.pl]).mono h3 },h1.on,h3,h4,h5⟩
theorem qH.flush (h:qH tp pr n ls.length q R no u all od x lM lD GM SD pm cs mo ring):qH tp pr n ls.length q (R.run (iH ls)) no u all od x lM lD GM GM pm cs mo ring :=
 { h with
  dk:={ h.dk with qt:=h.dk.qt.flush hI hn.1,po:=h.dk.po.congr hn.1 hw hp fun i hi a _ _=>ik hI i a,lg:=h.dk.lg.congr fun i a _ _ _=>ik hI i a }
  ls:=h.dk.lg.congr fun i a hi _ _=>by rw [ij,HF hI h.dk.qt.on hi] }
omit hI hn hw hp in
theorem qH.xj (h:qH tp pr n ls.length q R no u all od x lM lD GM SD pm cs mo ring):QX pr n ls ⟨R,x,[]⟩ pm :=
 ⟨h.dk.qt.on,fun i hi=>(h.dk.qt.sz i hi).2,h.dk.po,fun e he=>(h.al.hd e he).1,h.al.nd⟩
theorem qH.HG (h:qH tp pr n ls.length q R no u all od x lM lD GM SD pm cs mo ring)(ht:u.txg+1<=281474976710656){ks:List Int}{os:List (Int×Ob)}{ds:List (Int×List Pt)}{P2:PS}{MK:Ob}{fs:List Pt}{note:Nat}(FB:note<18446744073709551616)
  (hc:CmR pr ls n u.txg all od ⟨R,x,[]⟩ ks os ds P2 MK fs) :
  ∃j1,qH tp pr n ls.length q (((P2.R.run (iH ls)).run (oM n ls ⟨11,u.txg+1,note,MK.root⟩)).run (iH ls)) no ⟨11,u.txg+1,note,MK.root⟩ os ds ((br (u.txg+1) P2.x (aN pr ls.length 1024) fs).sync ((u.txg+1:Nat):Int)) (lM.map (lO (u.txg+1))) (lM.map (lO (u.txg+1))) GM GM j1 os MK (upd ring ((u.txg+1) % 8) (some ⟨11,u.txg+1,note,MK.root⟩))/\P2.R.on:=by
 obtain ⟨j1,h1,h2,h3,h4,h5,h6,h7,h8,h9,Xl,h11⟩:=HB hI hn hw hp ⟨h.dk.rg.one,ht⟩ hc h.xj h.rel h.al h.oe h.dk.jY h.um
 have hu:zP (⟨11,u.txg+1,note,MK.root⟩:Ub)=0/\Ub.Ok ⟨11,u.txg+1,note,MK.root⟩:=⟨if_pos ⟨by simp only;omega,ht,h9,h11⟩,⟨by simp only;omega,by simp only;omega,FB,Xl⟩⟩
 obtain ⟨k1,k2,k3⟩:=h.dk.qt.HG hI hn.1 h6 hu
 refine ⟨j1,⟨⟨k1,h.dk.rg.next rfl rfl,hu,rfl,h1,fun x=>(h8 x).symm.trans (h2 x),h5.congr hn.1 hw hp fun i hi a a1 a2=>k3 i a ⟨by omega,a2⟩,h3,by rw [wY];exact h.um, ?_⟩,h1.rel,h4,h2,h7,by rw [wY];exact h.um, ?_⟩,h6.on⟩
 ·exact h.dk.lg.congr fun i a hi a1 a2=>by rw [k3 i a ⟨a1,by omega⟩,h6.now i a (.inl a2)]
 ·exact h.dk.lg.congr fun i a hi a1 a2=>by rw [ij,k2 i a hi,k3 i a ⟨a1,by omega⟩,h6.now i a (.inl a2)]
omit hI in
theorem qH.acp (h:qH tp pr n ls.length q R no u all od x lM lD GM SD pm cs mo ring)(hR:R.Ok):Dsk tp pr n ls.length q R.xi no u lD SD pm cs mo ring :=
 { h.dk with
  qt:=h.dk.qt.xi hn.1 hR
  po:=h.dk.po.congr hn.1 hw hp fun i hi a a1 _=>by rw [ij,h.dk.qt.q i hi a (.inr a1)]
  lg:=h.ls }
end
section
variable {tp:Tp}{pr:Bool}{n q:Nat}{R:Rk}{no:Nat}{u:Ub}{l:List au}{G:List UInt8}{pm:List dt}{cs:List (Int×Ob)}{mo:Ob}{ring:Nat->Option Ub}
theorem Rj {up:Pt->List Pt}{m:Ob}{SL:List eX}(x:Pt):x∈bc (AR up m SL)↔x∈ej m\/∃k o,aH (xm up 0 SL) k=some o/\x∈ej o:=by
 unfold bc AR
 rw [List.flatMap_cons,List.mem_append,List.mem_flatMap]
 refine or_congr Iff.rfl ⟨?_, ?_⟩
 ·rintro ⟨e,he,hx⟩
  obtain ⟨f,hf,rfl⟩:=List.mem_map.1 he
  exact ⟨f.1,f.2,eW mZ hf,hx⟩
 ·rintro ⟨k,o,ho,hx⟩
  exact ⟨_,List.mem_map.2 ⟨_,aI ho,rfl⟩,hx⟩
variable {ls:List (Option Lv)}(hI:wC ls)(hn:324<=n/\n<=2048)(hw:1<=ls.length/\ls.length<=5)(hp:pr=true->3<=ls.length)
include hI hn hw hp
theorem Dsk.opens (h:Dsk tp pr n ls.length q R no u l G pm cs mo ring)(eD:1<=no/\no+22528<=281474976710656)(FF:Nat)(h1:FF=p9 R ls 1 ls.length) :
  (1<=FF/\FF<=no)/\Opn pr n R ls pm cs mo/\(bP ls 22528 R FF 0 (aX R ls)).1.on/\(∀i,(bP ls 22528 R FF 0 (aX R ls)).1.size i=R.size i/\((bP ls 22528 R FF 0 (aX R ls)).1.live i↔R.live i))/\(bP ls 22528 R FF 0 (aX R ls)).1.ws.length<=R.ws.length+5*22528/\FF<=(bP ls 22528 R FF 0 (aX R ls)).2/\(bP ls 22528 R FF 0 (aX R ls)).2<=FF+22528 /\
  ∀ks:List Nat,ks.Nodup->(∀k,k∈ks↔∃x∈bc (AR (fg pm) (fY (fg pm) mo.root) (slotsOf cs)),aM (aN pr ls.length 1024) x=k) ->
   qH tp pr n ls.length q (QL n ls FF u R) (bP ls 22528 R FF 0 (aX R ls)).2 u (xm (fg pm) 0 (slotsOf cs)) (AR (fg pm) (fY (fg pm) mo.root) (slotsOf cs)) ⟨ks,[]⟩ l l G G pm (xm (fg pm) 0 (slotsOf cs)) (fY (fg pm) mo.root) ring:=by
 obtain ⟨a1,a2,a3⟩:=Vl hI h.lg eD.1 hw.1
 rw [<-h1] at a1 a2 a3
 obtain ⟨b1,b2,b3,b4,b5,b6,b7,b8,b9⟩:=LU hI hw hn.1 h.qt h.rg h.ub a1 ⟨a2,by omega⟩
 have uG:=h.RU.back h.po
 have Jk:(fY (fg pm) mo.root).root=mo.root:=(eK _ _).2.1
 have wh:∀x,x∈bc (AR (fg pm) (fY (fg pm) mo.root) (slotsOf cs))↔∃e∈pm,e.x=x:=fun x=>(h.RU.live h.po x).trans (h.lv x)
 refine ⟨⟨a2,a3⟩,h.RU.opn hI hn.1 hw hp (fun i hi=>(h.qt.sz i hi).2) h.po,b8,b9,b7,b5,b6,fun ks hk hm=>⟨⟨b1,h.rg,h.ub,h.rt.trans Jk.symm,uG,fun x=>(Rj x).symm.trans (wh x),h.po.congr hn.1 hw hp fun i hi a c1 c2=>b4 i a ⟨c1,c2⟩,h.jY,h.ud,b2⟩,uG.rel, ?_,wh, ?_,h.ud, ?_⟩⟩
 ·have hke:∀k∈ks,∃e∈pm,aM (aN pr ls.length 1024) e.x=k:=fun k hk=>by
   obtain ⟨x,hx,rfl⟩:=(hm k).1 hk
   obtain ⟨e,he,rfl⟩:=(wh x).1 hx
   exact ⟨e,he,rfl⟩
  refine ⟨⟨fun k hk => ?_,List.nodup_nil,fun k hk=>by cases hk⟩,hk,fun e he=>⟨(hm _).2 ⟨e.x,(wh _).2 ⟨e,he,rfl⟩,rfl⟩,fun h=>by cases h⟩,fun k hk=>.inr (hke k hk),fun g hg=>(by cases hg),List.nodup_nil⟩
  obtain ⟨e,he,rfl⟩:=hke k hk
  have:=(h.po.Hu e he).fit
  exact_mod_cast this
 ·intro e he
  unfold AR at he
  rcases List.mem_cons.1 he with rfl | he
  ·have h1:(ej (fY (fg pm) mo.root)).length<=10:=qE uG.mi uG.mc
   simp only;omega
  ·obtain ⟨f,hf,rfl⟩:=List.mem_map.1 he
   obtain ⟨d, -,c1,c2,c3⟩:=uG.has (eW mZ hf)
   have h1:=qE c1 c3
   have h2:=HA c2.sz
   have h3:=lC c2.sz
   have h4:=Xi f.2.size
   rw [h4] at h2
   simp only;omega
 ·exact b2.congr fun i a hi _ _=>by rw [ij,b3 i a hi]
end
theorem AY {R:Rk}{l:List Ev}{i a:Nat}{b:eG}(bZ:R.on)(ha:a<R.size i)(h:∀b',Ev.w i a b'∈l->b'=b)(hb:R.now i a=b):(R.run l).now i a=b:=by
 by_cases c:Ev.w i a b∈l
 ·exact hY bZ ha h c
 ·rw [bJ fun b' JC=>c (by rw [h b' JC] at JC;exact JC)];exact hb
structure FmD (n i:Nat)(s:eG)(R:Rk):Prop where
 lb:R.now i 0=s
 z:∀a,a<n->(∀k,k<4->a≠fC n k)->R.now i a=fK
 pl:∀a,R.pl i a=R.now i a
theorem Vm {n i:Nat}{s:eG}{R:Rk}(hn:324<=n)(bZ:R.on)(bu:R.size i=n)(hz:∀a,a<n->R.now i a=fK):FmD n i s (R.run (upto (gC n i s) 7)):=by
 have e:upto (gC n i s) 7=(fT i 0 (List.replicate 274 fK)++fT i (n - 18) (List.replicate 18 fK))++(fT i 0 [s]++(fT i 9 [s]++(fT i (n - 18) [s]++fT i (n - 9) [s])))++[Ev.f i]:=by
  simp [upto,gC,fC]
 have m0:∀ {b a},Ev.w i a b∈fT i 0 (List.replicate 274 fK)++fT i (n - 18) (List.replicate 18 fK)->b=fK:=fun {b a} h=>by
  rcases List.mem_append.1 h with h | h <;> obtain ⟨-,j,hj, -⟩:=eO.1 h <;> exact (List.mem_replicate.1 (List.mem_of_getElem? hj)).2
 have m1:∀ {b a p},Ev.w i a b∈fT i p [s]->b=s/\a=p:=fun {b a p} h=>by
  obtain ⟨-,j,hj,e⟩:=eO.1 h
  rcases j with _ | j
  ·simp at hj;exact ⟨hj.symm,by omega⟩
  ·simp at hj
 have hp:∀a,(R.run (upto (gC n i s) 7)).pl i a=(R.run (upto (gC n i s) 7)).now i a:=fun a=>by
  rw [e,Rk.jv]
  show ((R.run _).ev (.f i)).pl i a=((R.run _).ev (.f i)).now i a
  rw [Je (bZ.run _),kW]
 refine ⟨?_,fun a ha hk => ?_,hp⟩
 ·rw [e,List.append_assoc,Rk.jv]
  refine hY (bZ.run _) (by rw [Rk.dj,bu];omega) (fun b' hb => ?_) ?_
  ·simp only [List.mem_append] at hb
   rcases hb with (h | h | h | h) | h
   ·exact (m1 h).1
   ·exact (m1 h).1
   ·exact (m1 h).1
   ·exact (m1 h).1
   ·simp at h
  ·simp only [List.mem_append]
   exact .inl (.inl (eO.2 ⟨rfl,0,rfl,rfl⟩))
 ·refine AY bZ oZ (fun b' hb => ?_) (hz a ha)
  rw [e] at hb
  simp only [List.mem_append] at hb
  have k0:=hk 0 oZ;have k1:=hk 1 oZ;have k2:=hk 2 oZ;have k3:=hk 3 oZ
  simp only [fC] at k0 k1 k2 k3
  rcases hb with (h | h | h | h | h) | h
  ·exact m0 (List.mem_append.2 h)
  ·exact absurd (m1 h).2 k0
  ·exact absurd (m1 h).2 k1
  ·exact absurd (m1 h).2 k2
  ·exact absurd (m1 h).2 k3
  ·simp at h
theorem LV:fR fK gV=false:=u3 fun h=>by
 have:=h.2.1
 revert this;decide
theorem Vn:gB fK=false:=by
 unfold gB
 rw [show fv fK=0 by decide]
 simp
theorem HH (n w:Nat):(qU n w).on:=by
 induction w with
 | zero=>exact ⟨rfl,rfl⟩
 | succ w ih=>exact ih
theorem Rl (n:Nat):∀w,(qU n w).ds=List.replicate w ⟨List.replicate n fK,List.replicate n fK,false⟩
 | 0=>rfl
 | w+1=>by
  show (qU n w).ds++[_]=_
  rw [Rl n w,List.replicate_succ']
theorem r8 {n w i:Nat}(hi:i<w):(qU n w).live i/\(qU n w).size i=n/\∀a,a<n->(qU n w).now i a=fK:=by
 unfold Rk.live Rk.size Rk.now
 rw [Rl,List.getElem?_replicate,if_pos hi]
 refine ⟨rfl,by simp,fun a ha => ?_⟩
 simp [ha]
theorem acq {n k i a:Nat}{s b:eG}{m:Nat}(h:Ev.w i a b∈upto (gC n k s) m):i=k:=by
 obtain ⟨q, -,hq⟩:=ei.1 h
 unfold gC at hq
 split at hq
 all_goals first
  | exact (eO.1 hq).1
  | simp at hq
theorem acr {n k d:Nat}{s:eG}:Ev.f d∉upto (gC n k s) 6:=fun h=>by
 obtain ⟨q,hq6,hq⟩:=ei.1 h
 obtain rfl | rfl | rfl | rfl | rfl | rfl:q=0\/q=1\/q=2\/q=3\/q=4\/q=5:=by omega
 all_goals exact mR hq
theorem yW {n k i:Nat}{s:eG}{R:Rk}(hi:i≠k):(∀a,(R.run (upto (gC n k s) 7)).now i a=R.now i a)/\((∀a,R.pl i a=R.now i a)->∀a,(R.run (upto (gC n k s) 7)).pl i a=R.now i a):=by
 have h1:∀m a,(R.run (upto (gC n k s) m)).now i a=R.now i a:=fun m a=>bJ fun b hb=>hi (acq hb)
 refine ⟨h1 7,fun hp a => ?_⟩
 rw [dP,show gC n k s 6=[.f k] from rfl]
 show ((R.run _).ev (.f k)).pl i a=_
 rw [Eu (by rw [Hg fun d=>acr,hp,h1]),h1]
theorem Jp {n w:Nat}{lb:Nat->eU}(hn:324<=n):∀k,k<=w->(∀i,i<k->FmD n i (whole (dL (lb i))) ((qU n w).run (upto (qT n lb) k)))/\∀i,k<=i->i<w->∀a,a<n->((qU n w).run (upto (qT n lb) k)).now i a=fK
 | 0,_=>⟨fun i h=>by omega,fun i _ hi a ha=>(r8 hi).2.2 a ha⟩
 | k+1,hk=>by
  obtain ⟨h2,h3⟩:=Jp (w:=w) (lb:=lb) hn k oZ
  have h1:((qU n w).run (upto (qT n lb) k)).on:=(HH n w).run _
  have h4:((qU n w).run (upto (qT n lb) k)).size k=n:=by rw [Rk.dj];exact (r8 oZ).2.1
  rw [dP]
  generalize (qU n w).run (upto (qT n lb) k)=R at *
  refine ⟨fun i hi => ?_,fun i hi hiw a ha => ?_⟩
  ·by_cases c:i=k
   ·subst c
    exact Vm hn h1 h4 (h3 i (Nat.le_refl _) oZ)
   ·obtain ⟨o1,o2⟩:=yW (n:=n) (k:=k) (s:=whole (dL (lb k))) (R:=R) c
    have hd:=h2 i oZ
    exact ⟨by rw [<-hd.lb];exact o1 0,fun a ha hk=>by rw [<-hd.z a ha hk];exact o1 a,fun a=>(o2 hd.pl a).trans (o1 a).symm⟩
  ·rw [<-h3 i oZ hiw a ha]
   exact (yW oZ).1 a
theorem EV {n w pool:Nat}{tp:Tp}(hn:324<=n):Qt pool tp n w (fun _=>none) ((qU n w).run (upto (qT n fun k=>⟨pool,[tp],0,k⟩) w))/\ez ((qU n w).run (upto (qT n fun k=>⟨pool,[tp],0,k⟩) w)) w 1 (List.replicate 22528 0)/\∀i a,i<w->((qU n w).run (upto (qT n fun k=>⟨pool,[tp],0,k⟩) w)).pl i a=((qU n w).run (upto (qT n fun k=>⟨pool,[tp],0,k⟩) w)).now i a:=by
 have h1:((qU n w).run (upto (qT n fun k=>⟨pool,[tp],0,k⟩) w)).on:=(HH n w).run _
 obtain ⟨h2, -⟩:=Jp (w:=w) (lb:=fun k=>(⟨pool,[tp],0,k⟩:eU)) hn w (Nat.le_refl _)
 have h4:∀i,i<w->((qU n w).run (upto (qT n fun k=>⟨pool,[tp],0,k⟩) w)).live i/\((qU n w).run (upto (qT n fun k=>⟨pool,[tp],0,k⟩) w)).size i=n:=fun i hi=>⟨(Rk.eh ..).2 (r8 hi).1,by rw [Rk.dj];exact (r8 hi).2.1⟩
 generalize (qU n w).run (upto (qT n fun k=>(⟨pool,[tp],0,k⟩:eU)) w)=R at *
 refine ⟨⟨h1,h4,fun k hk=>(h2 k hk).lb,fun i hi k j hk hj => ?_,fun i hi a _=>(h2 i hi).pl a⟩,⟨List.length_replicate ..,fun k hk=>⟨fK,fun i hi=>(h2 i hi).z _ oZ fun q hq => ?_,.inr ⟨Vn, ?_⟩⟩⟩,fun i a hi=>(h2 i hi).pl a⟩
 ·show fR _ gV=false
  rw [(h2 i hi).z _ (r5 hk hj hn).1 fun q hq => ?_]
  ·exact LV
  ·obtain rfl | rfl | rfl | rfl:k=0\/k=1\/k=2\/k=3:=by omega
   all_goals
    obtain rfl | rfl | rfl | rfl:q=0\/q=1\/q=2\/q=3:=by omega
    all_goals
     simp only [fC]
     omega
 ·obtain rfl | rfl | rfl | rfl:q=0\/q=1\/q=2\/q=3:=by omega
  all_goals
   simp only [fC]
   omega
 ·unfold gS
  rw [List.drop_replicate,List.take_replicate]
  congr 1
  omega
section
variable {pm:List dt}{all:List (Int×Ob)}{l:List au}
theorem bF.Vo (h:bF pm all l){k:Int}{z room:Nat}{o:Ob}{d:au}(hk:(d.no:Int)=k)(hd:1<=k/\k<=112)(hn:((ec all k o).map (·.1)).Nodup)(hi:db pm (cY o.size 1024) o)(hr:dW pm o d)(hz:o.size=z)(hf:cA l k z room=true) :
  bF pm (ec all k o) (dF d false l)/\aT (dF d false l)<=room:=by
 subst hk
 exact ⟨h.put hn oZ hi hr,LS hf rfl (hr.size.symm.trans hz)⟩
theorem bF.aat (h:bF pm all l)(k:Nat):db pm (cY (Ob.at all k).size 1024) (Ob.at all k)/\dW pm (Ob.at all k) (kU l k)/\(kU l k).no=k/\(Ob.at all k).size=(kU l k).b.length:=by
 unfold Ob.at kU
 rcases h.keys k with ⟨h1,h2⟩ | ⟨o,d,h1,h2,h3,h4⟩
 ·rw [h1,h2]
  exact ⟨Rb pm,LR pm k,rfl,rfl⟩
 ·rw [h1,h2]
  have:=(fh h2).2
  exact ⟨h3,h4,by simp only [Option.getD_some];omega,h4.size⟩
theorem bF.isS (h:bF pm all l){k:Int}{o:Ob}(hk:aH all k=some o):∃d,ey l k=some d/\(d.no:Int)=k/\db pm (cY o.size 1024) o/\dW pm o d:=by
 rcases h.keys k with ⟨h1, -⟩ | ⟨o',d,h1,h2,h3,h4⟩
 ·rw [hk] at h1;cases h1
 ·rw [hk] at h1;cases h1
  exact ⟨d,h2,(fh h2).2,h3,h4⟩
theorem bF.isN (h:bF pm all l){k:Int}(hk:aH all k=none):ey l k=none:=by
 rcases h.keys k with ⟨-,h2⟩ | ⟨o',d,h1, -⟩
 ·exact h2
 ·rw [hk] at h1;cases h1
theorem bF.each (h:bF pm all l):∀e∈all,1<=e.1/\e.1<=112/\db pm (cY e.2.size 1024) e.2/\e.2.size<=65536/\e.2.used=true:=fun e he=>by
 obtain ⟨d,h1,h2,h3,h4⟩:=h.isS (eW h.kn he)
 have h5:=h.no d (fh h1).1
 exact ⟨by omega,by omega,h3,h4.sz,h4.us⟩
theorem bF.jY (h:bF pm all l):all.length<=112:=by rw [h.len];exact h.dl.jY
theorem LW (h:bF pm all l):mY all (all.map (·.1))<=aT l:=by
 rw [<-h.used]
 have:∀L:List (Int×Ob),(∀e∈L,EC all e.1<=cost e.2.size)->((L.map (·.1)).map (EC all)).sum<=eI L:=by
  intro L
  induction L with
  | nil=>intro _;exact Nat.zero_le _
  | cons e r ih =>
   intro h
   have a1:=h e (List.mem_cons_self ..)
   have a2:=ih fun x hx=>h x (List.mem_cons_of_mem _ hx)
   simp only [eI,List.map_cons,List.sum_cons] at *
   omega
 refine this all fun e he => ?_
 obtain ⟨-, -,h3,h4, -⟩:=h.each e he
 unfold EC
 rw [eW h.kn he]
 exact aan h3 h4
theorem bF.write (h:bF pm all l){k:Nat}(hk:1<=k/\k<=112){a m room:Nat}{b:List UInt8}(hb:b.length=m)(K5:a+m<=65536){bW:List (Int×List UInt8)}(hn:(bW.map (·.1)).Nodup)
  (hf:∀q,aH bW q=if cR a m q then some (jL ((Ob.at all k).byte (j2 pm)) a b (max (Ob.at all k).size (a+m)) q.toNat) else aH (Ob.at all k).fresh q) (v:Value)
  (Sg:((ec all k { Ob.at all k with size:=max (Ob.at all k).size (a+m),fresh:=bW,clean:=false }).map (·.1)).Nodup) (bE:cA l k (max (kU l k).b.length (a+m)) room=true) :
  bF pm (ec all k { Ob.at all k with size:=max (Ob.at all k).size (a+m),fresh:=bW,clean:=false }) (dF { kU l k with b:=Lp (kU l k).b (max (kU l k).b.length (a+m)) a b,gE:=qm (kU l k) a m,v:=v } false l) /\
   aT (dF { kU l k with b:=Lp (kU l k).b (max (kU l k).b.length (a+m)) a b,gE:=qm (kU l k) a m,v:=v } false l)<=room:=by
 obtain ⟨h1,h2,h3,h4⟩:=h.aat k
 exact h.Vo (by simp only [h3]) oZ Sg (h1.write h2.sz K5 hn hf) (h2.write hb K5 hn hf v) (by simp only [h4]) bE
theorem bF.acs (h:bF pm all l){k:Int}(hk:1<=k/\k<=112){o:Ob}{d:au}(ho:aH all k=some o)(hd:ey l k=some d){z room:Nat}(hz:z<=65536){bW:List (Int×List UInt8)}(hn:(bW.map (·.1)).Nodup)
  (hf:∀q,aH bW q=if z<o.size then jD (j2 pm) o z q else aH o.fresh q) (v:Value)
  (Sg:((ec all k { o with size:=z,ay:=if z<o.size then o.ay.take (aW z) else o.ay,fresh:=bW,clean:=false }).map (·.1)).Nodup) (bE:cA l k z room=true) :
  bF pm (ec all k { o with size:=z,ay:=if z<o.size then o.ay.take (aW z) else o.ay,fresh:=bW,clean:=false }) (dF { W7 d z with b:=dH z d.b,v:=v } false l) /\
   aT (dF { W7 d z with b:=dH z d.b,v:=v } false l)<=room:=by
 obtain ⟨d',h1,h2,h3,h4⟩:=h.isS ho
 rw [hd] at h1;cases h1
 unfold W7
 have hs:=h4.size
 by_cases c:z<o.size
 ·simp only [if_pos c] at hf Sg ⊢
  rw [if_pos oZ]
  exact h.Vo h2 hk Sg (h3.cut c h4.sz hn hf) (h4.cut c hn hf v) rfl bE
 ·simp only [if_neg c] at hf Sg ⊢
  rw [if_neg oZ]
  exact h.Vo h2 hk Sg (h3.grow oZ hz hn hf) (h4.grow oZ hz hn hf v) rfl bE
theorem bF.fork (h:bF pm all l){k:Int}{z:Nat}(hz:1<=z/\z<=112){o:Ob}{d:au}(ho:aH all k=some o)(hd:ey l k=some d){room:Nat}{bW:List (Int×List UInt8)}(hn:(bW.map (·.1)).Nodup)(hf:∀q,aH bW q=aH o.fresh q)(v:Value)
  (Sg:((ec all z { o with fresh:=bW }).map (·.1)).Nodup) (bE:cA l z d.b.length room=true) :
  bF pm (ec all z { o with fresh:=bW }) (dF { d with no:=z,v:=v } false l)/\aT (dF { d with no:=z,v:=v } false l)<=room:=by
 obtain ⟨d',h1,h2,h3,h4⟩:=h.isS ho
 rw [hd] at h1;cases h1
 exact h.Vo rfl oZ Sg (h3.same hn hf) (h4.same hn hf z v) h4.size bE
end
theorem qH.new {tp:Tp}{pr:Bool}{n q:Nat}{ls:List (Option Lv)}(hI:wC ls)(hn:324<=n/\n<=2048)(hq:10<=q):∀R0,R0=(qU n ls.length).run (upto (qT n fun k=>⟨11,[tp],0,k⟩) ls.length) ->
  R0.on/\(∀i,i<ls.length->R0.live i/\R0.size i=n)/\(∀i,i<ls.length->iN R0 n i fun _ _=>none)/\∃ring,qH tp pr n ls.length q ((R0.run (oM n ls ⟨11,1,0,ah⟩)).run (iH ls)) 1 ⟨11,1,0,ah⟩ [] [] ⟨[],[]⟩ [] [] (List.replicate 22528 0) (List.replicate 22528 0) [] [] Vj ring:=by
 rintro R0 hR
 obtain ⟨h1,h2,h3⟩:=EV (w:=ls.length) (pool:=11) (tp:=tp) hn.1
 rw [<-hR] at h1 h2 h3
 have hu:zP (⟨11,1,0,ah⟩:Ub)=0/\Ub.Ok ⟨11,1,0,ah⟩:=⟨by decide,⟨by decide,by decide,by decide,by refine ⟨?_, ?_, ?_, ?_, ?_, ?_, ?_, ?_, ?_⟩ <;> decide⟩⟩
 obtain ⟨k1,k2,k3⟩:=h1.mark hI hn.1 h1.on (fun _=>rfl) (fun _=>Iff.rfl) (fun _ _ _=>rfl) hu
 have hlg:ez ((R0.run (oM n ls ⟨11,1,0,ah⟩)).run (iH ls)) ls.length 1 (List.replicate 22528 0):=h2.congr fun i a hi a1 a2=>k3 i a ⟨a1,by omega⟩
 refine ⟨h1.on,h1.sz,h1.rg,_,⟨⟨k1,qG.first rfl rfl,hu,rfl,Jn ES,fun x => ?_,⟨fun e he=>(by cases he),List.Pairwise.nil⟩,Nat.zero_le _,by simpa [aT] using hq,hlg⟩,(Jn ES).rel,⟨⟨fun k hk=>(by cases hk),List.nodup_nil,fun k hk=>(by cases hk)⟩,List.nodup_nil,fun e he=>(by cases he),fun k hk=>(by cases hk),fun g hg=>(by cases hg),List.nodup_nil⟩,fun x => ?_,fun e he=>(by cases he),by simpa [aT] using hq, ?_⟩⟩
 ·constructor
  ·rintro (h | ⟨k,o,h, -⟩)
   ·exact absurd (gf.1 h).1 (by simp [Vj])
   ·cases h
  ·rintro ⟨e,he, -⟩;cases he
 ·constructor
  ·intro h;cases h
  ·rintro ⟨e,he, -⟩;cases he
 ·exact hlg.congr fun i a hi a1 a2=>by rw [ij,k2 i a hi]
theorem bS {l m:Chunk}(h:∀c:Chunk->Nat,(∀a b,c (a++b)=c a+c b)->c []=0->c l=c m:=by intro c h1 h0;simp only [List.flatten_cons,List.flatten_nil,h1,h0,Go.Proofs.YteldablklnfblaaGreatDoor.Rg.ch] <;> omega):l.Perm m:=by
 classical
 exact List.perm_iff_count.2 fun x=>h (fun l=>List.count x l) (fun a b=>List.count_append) rfl
end Go.Sl
namespace Go.Proofs.YteldablklnfblaaGreatDoor
open Go.Sl
set_option maxRecDepth 10000
theorem Ct.to {g:FuncId}{args:List Value}{As:List Chunk}{P P':Value->List Chunk->Prop}(h:Ct g args As P)(k:∀u Bs,P u Bs->P' u Bs):Ct g args As P':=fun w H=>(h w H).mono fun u _ ⟨Bs,hp,ht⟩=>⟨Bs,k u Bs hp,ht⟩
theorem Ct.dg {g:FuncId}{args:List Value}{As Ls:List Chunk}{v:Value}{P':Value->List Chunk->Prop}(Rs:Chunk)(h:Ct g args As fun u Bs=>u=v/\Bs=As)(s:Ls.flatten.Perm (As.flatten++Rs))(k:P' v Ls):Ct g args Ls P':=h.on (Rs:=Rs) s fun u Bs ⟨e,e2⟩=>⟨Ls,[],e ▸ k,by rw [e2,show Ls.flatten++([]:Chunk)=Ls.flatten from List.append_nil _];exact s.symm⟩
theorem acu {L:List (Int×Value)}{all:List (Int×Ob)}{V:Chunk}(h:eS wi L all V){k:Int}{o:Ob}(hk:aH all k=some o):(o.fresh.map (·.1)).Nodup:=by
 rcases h.look k with ⟨-,h2, -⟩ | ⟨v,x,V1,D,V2, -,h2, -,⟨a, -,jl,cP,DP,dQ,cI,DI,r,LF,CF,VF, -, -,h3,h4, -⟩, -⟩
 ·rw [hk] at h2;cases h2
 ·rw [hk] at h2;cases h2
  rw [h4.keys];exact h3.nodup
def AZ (T:TypeId)(fr:Nat×Nat)(p:Nat)(qs:List Nat)(tp:Tp)(pr:Bool)(n:Nat)(ls:List (Option Lv))(s:Nat)(R:Rk)(no txg note:Nat)(all:List (Int×Ob))(od:List (Int×List Pt))(x:Rm)(S:Chunk):Prop :=
 ∃t al ra rd C V LA CA VA Ld CD VD Al,jb t 11 tp pr n ls no V/\bq p qs R C/\Mp ra .i64 LA CA/\eS wi LA all VA/\Mp rd .i64 Ld CD/\eS PC Ld od VD/\pd al ((bD pr ls.length n:Nat):Int) ((aN pr ls.length 1024:Nat):Int) x Al /\
  S=[(s,bR t (ptr al) ra rd txg note)]++(gK T fr++(C++(V++(CA++(VA++(CD++(VD++Al)))))))
structure StF (qs:List Nat)(tp:Tp)(pr:Bool)(n q:Nat)(ls:List (Option Lv))(R:Rk)(pm:List dt)(all:List (Int×Ob))(l:List au):Prop where
 ok:dK tp pr n ls.length
 n2:n<=2048
 ho:dJ qs R n ls
 hall:∀x∈ls,x≠none
 on:R.on
 rel:bF pm all l
 Sj:∀(o:Ob) (N:Nat),db pm N o->∀x∈o.ay,x≠ah->K0 R ls pr n x (j2 pm x)
 q:bD pr ls.length n / aN pr ls.length 1024 / 4=q
section
variable {T:TypeId}{fr:Nat×Nat}{p:Nat}{qs:List Nat}{tp:Tp}{pr:Bool}{n q:Nat}{ls:List (Option Lv)}{s:Nat}{R:Rk}{no txg note:Nat}{all:List (Int×Ob)}{od:List (Int×List Pt)}{rm:Rm}{S:Chunk}{pm:List dt}{l:List au}
theorem AZ.kn (h:AZ T fr p qs tp pr n ls s R no txg note all od rm S):(all.map (·.1)).Nodup:=by
 obtain ⟨t,al,ra,rd,C,V,LA,CA,VA,Ld,CD,VD,Al, -, -,h1,h2, -⟩:=h
 rw [h2.keys];exact h1.nodup
theorem AZ.fn (h:AZ T fr p qs tp pr n ls s R no txg note all od rm S){k:Int}{o:Ob}(hk:aH all k=some o):(o.fresh.map (·.1)).Nodup:=by
 obtain ⟨t,al,ra,rd,C,V,LA,CA,VA,Ld,CD,VD,Al, -, -,h1,h2, -⟩:=h
 exact acu h2 hk
variable (h:AZ T fr p qs tp pr n ls s R no txg note all od rm S)(f:StF qs tp pr n q ls R pm all l)
include h
theorem A0 (k a:Int)(ad:Option Addr)(m c:Nat)(O:Chunk)(hb:¬(1<=k/\k<=112)\/a<0\/65536<a\/65536 - a<m):Ct 42 [ptr s,.int .i64 k,.int .i64 a,.slice ad m c] [S,O] fun u Bs=>u = .int .i64 1/\∃S',S'=S/\Bs=[S',O]:=by
 obtain ⟨t,al,ra,rd,C,V,LA,CA,VA,Ld,CD,VD,Al,hV,hC,hA,hG,hD,hP,hL,rfl⟩:=h
 exact (G4 s t (ptr al) ra rd txg note k a ad m c hb).dg (gK T fr++(C++(V++(CA++(VA++(CD++(VD++(Al++O)))))))) bS ⟨rfl,_,rfl,rfl⟩
theorem A7 (k z:Int)(hb:z<0\/65536<z):Ct 44 [ptr s,.int .i64 k,.int .i64 z] [S] fun u Bs=>u = .int .i64 1/\∃S',S'=S/\Bs=[S']:=by
 obtain ⟨t,al,ra,rd,C,V,LA,CA,VA,Ld,CD,VD,Al,hV,hC,hA,hG,hD,hP,hL,rfl⟩:=h
 exact (G5 t s (ptr al) ra rd txg note k z hb).dg (gK T fr++(C++(V++(CA++(VA++(CD++(VD++Al))))))) bS ⟨rfl,_,rfl,rfl⟩
theorem sQ (k:Int)(z:Nat)(hz:z<=65536)(hb:(du all k).2≠0):Ct 44 [ptr s,.int .i64 k,.int .i64 z] [S] fun u Bs=>u = .int .i64 (du all k).2/\∃S',S'=S/\Bs=[S']:=by
 obtain ⟨t,al,ra,rd,C,V,LA,CA,VA,Ld,CD,VD,Al,hV,hC,hA,hG,hD,hP,hL,rfl⟩:=h
 exact (La t s (ptr al) ra rd txg note LA CA hA all VA hG k z hz hb).dg (gK T fr++(C++(V++(CD++(VD++Al))))) bS ⟨rfl,_,rfl,rfl⟩
theorem EW (k z:Int)(hb:¬(1<=z/\z<=112)):Ct 46 [ptr s,.int .i64 k,.int .i64 z] [S] fun u Bs=>u = .int .i64 1/\∃S',S'=S/\Bs=[S']:=by
 obtain ⟨t,al,ra,rd,C,V,LA,CA,VA,Ld,CD,VD,Al,hV,hC,hA,hG,hD,hP,hL,rfl⟩:=h
 exact (Lc t s (ptr al) ra rd txg note k z hb).dg (gK T fr++(C++(V++(CA++(VA++(CD++(VD++Al))))))) bS ⟨rfl,_,rfl,rfl⟩
theorem wZ (k z:Int)(hz:1<=z/\z<=112)(hb:(du all k).2≠0):Ct 46 [ptr s,.int .i64 k,.int .i64 z] [S] fun u Bs=>u = .int .i64 (du all k).2/\∃S',S'=S/\Bs=[S']:=by
 obtain ⟨t,al,ra,rd,C,V,LA,CA,VA,Ld,CD,VD,Al,hV,hC,hA,hG,hD,hP,hL,rfl⟩:=h
 exact (P5 t s (ptr al) ra rd txg note LA CA hA all VA hG k z hz hb).dg (gK T fr++(C++(V++(CD++(VD++Al))))) bS ⟨rfl,_,rfl,rfl⟩
theorem A8 (k:Int)(hk:1<=k/\k<=112){o:Ob}(hl:aH all k=some o):Ct 46 [ptr s,.int .i64 k,.int .i64 k] [S] fun u Bs=>u = .int .i64 0/\∃S',S'=S/\Bs=[S']:=by
 obtain ⟨t,al,ra,rd,C,V,LA,CA,VA,Ld,CD,VD,Al,hV,hC,hA,hG,hD,hP,hL,rfl⟩:=h
 exact (G6 t s (ptr al) ra rd txg note LA CA hA all VA hG k hk o hl).dg (gK T fr++(C++(V++(CD++(VD++Al))))) bS ⟨rfl,_,rfl,rfl⟩
theorem Vp (k:Int):Ct 48 [ptr s,.int .i64 k] [S] fun u Bs=>u = .int .i64 (du all k).2/\∃S',AZ T fr p qs tp pr n ls s R no txg note (if (du all k).2=0 then oN all k else all) od rm S'/\Bs=[S']:=by
 obtain ⟨t,al,ra,rd,C,V,LA,CA,VA,Ld,CD,VD,Al,hV,hC,hA,hG,hD,hP,hL,rfl⟩:=h
 refine (Up s t (ptr al) ra rd txg note LA CA hA all VA hG k).on (Rs:=gK T fr++(C++(V++(CD++(VD++Al))))) bS ?_
 rintro u Bs ⟨rfl,L',C',V',h1,h2,rfl⟩
 exact ⟨_,[],⟨rfl,_,⟨t,al,ra,rd,C,V,L',C',V',Ld,CD,VD,Al,hV,hC,h1,h2,hD,hP,hL,rfl⟩,rfl⟩,bS⟩
theorem Vq (k:Int):Ct 25 [ptr s,.int .i64 k] [S] fun u Bs=>u = .tuple #[.int .i64 (du all k).1,.int .i64 (du all k).2]/\Bs=[S]:=by
 obtain ⟨t,al,ra,rd,C,V,LA,CA,VA,Ld,CD,VD,Al,hV,hC,hA,hG,hD,hP,hL,rfl⟩:=h
 exact (I2 s t (ptr al) ra rd txg note LA CA hA all VA hG k).dg (gK T fr++(C++(V++(CD++(VD++Al))))) bS ⟨rfl,rfl⟩
theorem EX (k a m:Int)(hb:a<0\/m<0):Ct 26 [ptr s,.int .i64 k,.int .i64 a,.int .i64 m] [S] fun u Bs=>u = .tuple #[.slice none 0 0,.int .i64 1]/\Bs=[S]:=by
 obtain ⟨t,al,ra,rd,C,V,LA,CA,VA,Ld,CD,VD,Al,hV,hC,hA,hG,hD,hP,hL,rfl⟩:=h
 exact (K4 t s (ptr al) ra rd txg note k a m hb).dg (gK T fr++(C++(V++(CA++(VA++(CD++(VD++Al))))))) bS ⟨rfl,rfl⟩
theorem w5 (k:Int)(a m:Nat)(hb:(du all k).2≠0):Ct 26 [ptr s,.int .i64 k,.int .i64 a,.int .i64 m] [S] fun u Bs=>u = .tuple #[.slice none 0 0,.int .i64 (du all k).2]/\Bs=[S]:=by
 obtain ⟨t,al,ra,rd,C,V,LA,CA,VA,Ld,CD,VD,Al,hV,hC,hA,hG,hD,hP,hL,rfl⟩:=h
 exact (PT t s (ptr al) ra rd txg note LA CA hA all VA hG k a m hb).dg (gK T fr++(C++(V++(CD++(VD++Al))))) bS ⟨rfl,rfl⟩
theorem EY (k:Int)(g:Nat)(hb:(du all k).2≠0):Ct 58 [ptr s,.int .i64 k,.int .u64 g] [S] fun u Bs=>u = .tuple #[.slice none 0 0,.int .i64 (du all k).2]/\Bs=[S]:=by
 obtain ⟨t,al,ra,rd,C,V,LA,CA,VA,Ld,CD,VD,Al,hV,hC,hA,hG,hD,hP,hL,rfl⟩:=h
 exact (K8 s t (ptr al) ra rd txg note LA CA hA all VA hG k g hb).dg (gK T fr++(C++(V++(CD++(VD++Al))))) bS ⟨rfl,rfl⟩
theorem EZ (a:Int)(ad:Option Addr)(m c:Nat)(O:Chunk)(hm:m<=4611686018427387904)(hb:¬(0<=a/\a+m<=22528)):Ct 52 [ptr s,.int .i64 a,.slice ad m c] [S,O] fun u Bs=>u = .int .i64 1/\∃S',S'=S/\Bs=[S',O]:=by
 obtain ⟨t,al,ra,rd,C,V,LA,CA,VA,Ld,CD,VD,Al,hV,hC,hA,hG,hD,hP,hL,rfl⟩:=h
 exact (Lh s t (ptr al) ra rd txg note a ad m c hm hb).dg (gK T fr++(C++(V++(CA++(VA++(CD++(VD++(Al++O)))))))) bS ⟨rfl,_,rfl,rfl⟩
theorem E0 (a m:Int)(hm:m<=9223372036854775807)(hb:¬(0<=a/\0<=m/\a+m<=22528)):Ct 61 [ptr s,.int .i64 a,.int .i64 m] [S] fun u Bs=>u = .tuple #[.slice none 0 0,.int .i64 1]/\Bs=[S]:=by
 obtain ⟨t,al,ra,rd,C,V,LA,CA,VA,Ld,CD,VD,Al,hV,hC,hA,hG,hD,hP,hL,rfl⟩:=h
 exact (Li s t (ptr al) ra rd txg note a m hm hb).dg (gK T fr++(C++(V++(CA++(VA++(CD++(VD++Al))))))) bS ⟨rfl,rfl⟩
include f
theorem xQ (k:Nat)(hk:1<=k/\k<=112)(a m:Nat)(K5:a+m<=65536)(ad:Option Addr)(c:Nat)(O:Chunk)(hf:cA l k (max (kU l k).b.length (a+m)) (q - 10)=false):Ct 42 [ptr s,.int .i64 k,.int .i64 a,.slice ad m c] [S,O] fun u Bs=>u = .int .i64 3/\∃S',S'=S/\Bs=[S',O]:=by
 obtain ⟨t,al,ra,rd,C,V,LA,CA,VA,Ld,CD,VD,Al,hV,hC,hA,hG,hD,hP,hL,rfl⟩:=h
 have hi:=f.rel.aat k
 refine (Eg t 11 tp pr n ls no V hV f.ok f.n2 s (ptr al) ra rd txg note LA CA hA all VA hG (fun e he=>(f.rel.each e he).2.2.2.1) f.rel.jY k oZ a m K5 ad c ?_).dg (gK T fr++(C++(CD++(VD++(Al++O))))) bS ⟨rfl,_,rfl,rfl⟩
 rw [f.rel.fits,hi.2.2.2,f.q];exact hf
theorem Rn (k:Nat)(hk:1<=k/\k<=112)(a m:Nat)(K5:a+m<=65536)(O:Chunk)(gh:Option Addr)(cb:Nat)(b:List UInt8)(dr:b.length=m)(hO:Rd O 1 (.slice gh m cb) m (ak b))(Hd:m<=cb)(hf:cA l k (max (kU l k).b.length (a+m)) (q - 10)=true) :
  Ct 42 [ptr s,.int .i64 k,.int .i64 a,.slice gh m cb] [S,O] fun u Bs=>u = .int .i64 0/\∃S',(∃bW,(∀q,aH bW q=if cR a m q then some (jL ((Ob.at all k).byte (j2 pm)) a b (max (Ob.at all k).size (a+m)) q.toNat) else aH (Ob.at all k).fresh q) /\
   AZ T fr p qs tp pr n ls s R no txg note (ec all k { Ob.at all k with size:=max (Ob.at all k).size (a+m),fresh:=bW,clean:=false }) od rm S')/\Bs=[S',O]:=by
 obtain ⟨t,al,ra,rd,C,V,LA,CA,VA,Ld,CD,VD,Al,hV,hC,hA,hG,hD,hP,hL,rfl⟩:=h
 have hi:=f.rel.aat k
 refine (QR T fr p qs t 11 tp pr n ls no V hV f.ok f.n2 R C hC f.ho f.hall f.on.2 s (ptr al) ra rd txg note LA CA hA all VA hG (fun e he=>(f.rel.each e he).2.2.2.1) f.rel.jY k oZ a m K5 O gh cb b dr hO Hd (j2 pm) (f.Sj _ _ hi.1) (fun e he=>(hi.1.fk e he).2.2) ?_).on (Rs:=CD++(VD++Al)) bS ?_
 ·rw [f.rel.fits,hi.2.2.2,f.q];exact hf
 ·rintro u Bs ⟨rfl,L',C',V',bW,h1,h2,h3,rfl⟩
  exact ⟨_,[],⟨rfl,_,⟨bW,h1,t,al,ra,rd,C,V,L',C',V',Ld,CD,VD,Al,hV,hC,h2,h3,hD,hP,hL,rfl⟩,rfl⟩,bS⟩
theorem xR (k:Int)(hk:1<=k/\k<=112)(z:Nat)(hz:z<=65536){o:Ob}(hl:aH all k=some o)(hf:cA l k z (q - 10)=false):Ct 44 [ptr s,.int .i64 k,.int .i64 z] [S] fun u Bs=>u = .int .i64 3/\∃S',S'=S/\Bs=[S']:=by
 obtain ⟨t,al,ra,rd,C,V,LA,CA,VA,Ld,CD,VD,Al,hV,hC,hA,hG,hD,hP,hL,rfl⟩:=h
 refine (Eh t 11 tp pr n ls no V hV f.ok f.n2 s (ptr al) ra rd txg note LA CA hA all VA hG (fun e he=>(f.rel.each e he).2.2.2.1) f.rel.jY k hk z hz o hl ?_).dg (gK T fr++(C++(CD++(VD++Al)))) bS ⟨rfl,_,rfl,rfl⟩
 rw [f.rel.fits,f.q];exact hf
theorem Ro (k:Int)(hk:1<=k/\k<=112)(z:Nat)(hz:z<=65536){o:Ob}(hl:aH all k=some o)(hf:cA l k z (q - 10)=true) :
  Ct 44 [ptr s,.int .i64 k,.int .i64 z] [S] fun u Bs=>u = .int .i64 0/\∃S',(∃bW,(∀q,aH bW q=if z<o.size then jD (j2 pm) o z q else aH o.fresh q) /\
   AZ T fr p qs tp pr n ls s R no txg note (ec all k { o with size:=z,ay:=if z<o.size then o.ay.take (aW z) else o.ay,fresh:=bW,clean:=false }) od rm S')/\Bs=[S']:=by
 obtain ⟨t,al,ra,rd,C,V,LA,CA,VA,Ld,CD,VD,Al,hV,hC,hA,hG,hD,hP,hL,rfl⟩:=h
 obtain ⟨d, -, -,hi,hr⟩:=f.rel.isS hl
 have hN:=rX hi.sz
 refine (PY T fr p qs t 11 tp pr n ls no V hV f.ok f.n2 R C hC f.ho f.hall f.on.2 s (ptr al) ra rd txg note LA CA hA all VA hG (fun e he=>(f.rel.each e he).2.2.2.1) f.rel.jY k hk z hz o hl (fun e he=>by have:=hi.fk e he;have:=hi.sz;omega) ?_ (j2 pm) (f.Sj _ _ hi) (fun e he=>(hi.fk e he).2.2) (by have:=hi.pl;omega)).on (Rs:=CD++(VD++Al)) bS ?_
 ·rw [f.rel.fits,f.q];exact hf
 ·rintro u Bs ⟨rfl,V',bW,h1,h3,rfl⟩
  exact ⟨_,[],⟨rfl,_,⟨bW,h1,t,al,ra,rd,C,V,LA,CA,V',Ld,CD,VD,Al,hV,hC,hA,h3,hD,hP,hL,rfl⟩,rfl⟩,bS⟩
theorem Ba (k z:Int)(hk:1<=k/\k<=112)(hz:1<=z/\z<=112)(jE:k≠z){o:Ob}(hl:aH all k=some o)(hf:cA l z o.size (q - 10)=false):Ct 46 [ptr s,.int .i64 k,.int .i64 z] [S] fun u Bs=>u = .int .i64 3/\∃S',S'=S/\Bs=[S']:=by
 obtain ⟨t,al,ra,rd,C,V,LA,CA,VA,Ld,CD,VD,Al,hV,hC,hA,hG,hD,hP,hL,rfl⟩:=h
 refine (G7 t 11 tp pr n ls no V hV f.ok f.n2 s (ptr al) ra rd txg note LA CA hA all VA hG (fun e he=>(f.rel.each e he).2.2.2.1) f.rel.jY k z hk hz jE o hl ?_).dg (gK T fr++(C++(CD++(VD++Al)))) bS ⟨rfl,_,rfl,rfl⟩
 rw [f.rel.fits,f.q];exact hf
theorem Vr (k z:Int)(hk:1<=k/\k<=112)(hz:1<=z/\z<=112)(jE:k≠z){o:Ob}(hl:aH all k=some o)(hf:cA l z o.size (q - 10)=true) :
  Ct 46 [ptr s,.int .i64 k,.int .i64 z] [S] fun u Bs=>u = .int .i64 0/\∃S',(∃bW,(∀q,aH bW q=aH o.fresh q)/\AZ T fr p qs tp pr n ls s R no txg note (ec all z { o with fresh:=bW }) od rm S')/\Bs=[S']:=by
 obtain ⟨t,al,ra,rd,C,V,LA,CA,VA,Ld,CD,VD,Al,hV,hC,hA,hG,hD,hP,hL,rfl⟩:=h
 obtain ⟨d, -, -,hi,hr⟩:=f.rel.isS hl
 have hN:=rX hi.sz
 refine (Ur t 11 tp pr n ls no V hV f.ok f.n2 s (ptr al) ra rd txg note LA CA hA all VA hG (fun e he=>(f.rel.each e he).2.2.2.1) f.rel.jY k z hk hz jE o hl ?_ (fun e he=>⟨hr.fp e he,(hi.fk e he).2.2⟩) ⟨by have:=hi.pl;omega,by have:=hi.il;omega⟩).on (Rs:=gK T fr++(C++(CD++(VD++Al)))) bS ?_
 ·rw [f.rel.fits,f.q];exact hf
 ·rintro u Bs ⟨rfl,L',C',V',bW,h1,h2,h3,rfl⟩
  exact ⟨_,[],⟨rfl,_,⟨bW,h1,t,al,ra,rd,C,V,L',C',V',Ld,CD,VD,Al,hV,hC,h2,h3,hD,hP,hL,rfl⟩,rfl⟩,bS⟩
theorem Vs (k:Int)(hk:1<=k/\k<=112)(a m:Nat)(K5:a<9223372036854775808/\m<9223372036854775808){d:au}(hd:ey l k=some d) :
  Ct 26 [ptr s,.int .i64 k,.int .i64 a,.int .i64 m] [S] fun u Bs=>∃ad c E,u = .tuple #[.slice ad (dB d.b.length a m) c,.int .i64 0]/\az E 5 1 (.slice ad (dB d.b.length a m) c) (dB d.b.length a m) (ak ((d.b.drop a).take m))/\Bs=[E,S]:=by
 obtain ⟨t,al,ra,rd,C,V,LA,CA,VA,Ld,CD,VD,Al,hV,hC,hA,hG,hD,hP,hL,rfl⟩:=h
 rcases f.rel.keys k with ⟨-,c⟩ | ⟨o,d',hl,c,hi,hr⟩
 ·rw [hd] at c;cases c
 rw [hd] at c;cases c
 refine (I3 T fr p qs t 11 tp pr n ls no V hV f.ok R C hC f.ho f.hall f.on.2 s (ptr al) ra rd txg note LA CA hA all VA hG k hk a m K5 o hl hr.sz (j2 pm) (f.Sj _ _ hi) (fun e he=>(hi.fk e he).2.2)).on (Rs:=CD++(VD++Al)) bS ?_
 rintro u Bs ⟨ad,c,E,h1,h2,rfl⟩
 rw [hr.part,hr.size] at h2
 rw [hr.size] at h1
 exact ⟨_,[],⟨ad,c,E,h1,h2,rfl⟩,bS⟩
theorem Rq (k:Int)(hk:1<=k/\k<=112)(g:Nat){d:au}(hd:ey l k=some d) :
  Ct 58 [ptr s,.int .i64 k,.int .u64 g] [S] fun u Bs=>∃ad c E,u = .tuple #[.slice ad (mb d.b.length 0 (aV d g) []).length c,.int .i64 0]/\az E 143 2 (.slice ad (mb d.b.length 0 (aV d g) []).length c) (mb d.b.length 0 (aV d g) []).length ((mb d.b.length 0 (aV d g) []).flatMap Sp.lay)/\Bs=[E,S]:=by
 obtain ⟨t,al,ra,rd,C,V,LA,CA,VA,Ld,CD,VD,Al,hV,hC,hA,hG,hD,hP,hL,rfl⟩:=h
 rcases f.rel.keys k with ⟨-,c⟩ | ⟨o,d',hl,c,hi,hr⟩
 ·rw [hd] at c;cases c
 rw [hd] at c;cases c
 refine (PW s t (ptr al) ra rd txg note LA CA hA all VA hG k hk g o hl hr.sz).on (Rs:=gK T fr++(C++(V++(CD++(VD++Al))))) bS ?_
 rintro u Bs ⟨ad,c,E,h1,h2,rfl⟩
 rw [hr.since,hr.size] at h1 h2
 exact ⟨_,[],⟨ad,c,E,h1,h2,rfl⟩,bS⟩
theorem Vt (a m:Nat)(b:List UInt8)(hm:b.length=m)(ha:a+m<=22528)(eD:1<=no/\no+m<=281474976710656)(hw:R.ws.length+5*m<=900000000000)(O:Chunk)(ad:Option Addr)(c:Nat)(hO:Rd O 1 (.slice ad m c) m (ak b))(hc:m<=c)(bZ:(bP ls m R no a b).1.on) :
  Ct 52 [ptr s,.int .i64 a,.slice ad m c] [S,O] fun u Bs=>u = .int .i64 0/\∃S',AZ T fr p qs tp pr n ls s (bP ls m R no a b).1 (bP ls m R no a b).2 txg note all od rm S'/\Bs=[S',O]:=by
 obtain ⟨t,al,ra,rd,C,V,LA,CA,VA,Ld,CD,VD,Al,hV,hC,hA,hG,hD,hP,hL,rfl⟩:=h
 refine (Ut s t (ptr al) ra rd txg note T fr p qs 11 tp pr n ls no V hV f.ok f.hall R C hC f.ho a b m hm ha eD hw O ad c hO hc bZ.2).on (Rs:=CA++(VA++(CD++(VD++Al)))) bS ?_
 rintro u Bs ⟨rfl,C',V',h1,h2,rfl⟩
 exact ⟨_,[],⟨rfl,_,⟨t,al,ra,rd,C',V',LA,CA,VA,Ld,CD,VD,Al,h2,h1,hA,hG,hD,hP,hL,rfl⟩,rfl⟩,bS⟩
theorem Vu (bZ:(R.run (iH ls)).on):Ct 55 [ptr s] [S] fun u Bs=>u = .int .i64 0/\∃S',AZ T fr p qs tp pr n ls s (R.run (iH ls)) no txg note all od rm S'/\Bs=[S']:=by
 obtain ⟨t,al,ra,rd,C,V,LA,CA,VA,Ld,CD,VD,Al,hV,hC,hA,hG,hD,hP,hL,rfl⟩:=h
 refine (Uu s t (ptr al) ra rd txg note p qs 11 tp pr n ls no V hV f.ok f.hall R C hC f.ho bZ.2).on (Rs:=gK T fr++(CA++(VA++(CD++(VD++Al))))) bS ?_
 rintro u Bs ⟨rfl,C',h1,rfl⟩
 exact ⟨_,[],⟨rfl,_,⟨t,al,ra,rd,C',V,LA,CA,VA,Ld,CD,VD,Al,hV,h1,hA,hG,hD,hP,hL,rfl⟩,rfl⟩,bS⟩
theorem Vv (a m:Nat)(ha:a+m<=22528)(G:List UInt8)(hG0:aX R ls=G):Ct 61 [ptr s,.int .i64 a,.int .i64 m] [S] fun u Bs=>∃ad c E,u = .tuple #[.slice ad m c,.int .i64 0]/\Rd E 1 (.slice ad m c) m (ak ((G.drop a).take m))/\Bs=[E,S]:=by
 obtain ⟨t,al,ra,rd,C,V,LA,CA,VA,Ld,CD,VD,Al,hV,hC,hA,hG,hD,hP,hL,rfl⟩:=h
 refine (Uv s t (ptr al) ra rd txg note T fr p qs 11 tp pr n ls no V hV f.ok f.hall R C hC f.ho f.on.2 a m ha (Rh hC.ok ls)).on (Rs:=CA++(VA++(CD++(VD++Al)))) bS ?_
 rintro u Bs ⟨ad,c,E,h1,h2,rfl⟩
 rw [hG0] at h2
 exact ⟨_,[],⟨ad,c,E,h1,h2.rd,rfl⟩,bS⟩
end
def Bz (a:Nat)(l:List au)(txg note room:Nat)(G Z:List UInt8)(M:Chunk):Prop :=
 ∃ad c D O adG cG DG bI cS DS,Jd D (.slice ad l.length c) l.length (l.flatMap au.lay)/\l.length<=c/\Ed O l/\az DG 5 1 (.slice adG 22528 cG) 22528 (ak G)/\az DS 5 1 (.slice bI 22528 cS) 22528 (ak Z) /\
  M=[(a,eM (.slice ad l.length c) txg note room (.slice adG 22528 cG) (.slice bI 22528 cS))]++(D++(O++(DG++DS)))
section
variable {a:Nat}{l:List au}{txg note room:Nat}{G Z:List UInt8}{M:Chunk}(h:Bz a l txg note room G Z M)(aQ:mO l)(hr:room<=100000)
theorem Bb (k x:Int)(gh:Option Addr)(m cb:Nat)(A:Chunk)(hb:¬(1<=k/\k<=112)\/x<0\/65536<x\/65536 - x<m):Ct 43 [ptr a,.int .i64 k,.int .i64 x,.slice gh m cb] [M,A] fun u Bs=>u = .int .i64 1/\∃M',M'=M/\Bs=[M',A] :=
 (Er (a:=a) k x gh m cb hb).dg (M++A) bS ⟨rfl,_,rfl,rfl⟩
theorem qI (k z:Int)(hb:¬(1<=k/\k<=112)\/z<0\/65536<z):Ct 45 [ptr a,.int .i64 k,.int .i64 z] [M] fun u Bs=>u = .int .i64 1/\∃M',M'=M/\Bs=[M'] :=
 (Es (a:=a) k z hb).dg M bS ⟨rfl,_,rfl,rfl⟩
theorem sR (k z:Int)(hb:¬(1<=k/\k<=112)\/¬(1<=z/\z<=112)):Ct 47 [ptr a,.int .i64 k,.int .i64 z] [M] fun u Bs=>u = .int .i64 1/\∃M',M'=M/\Bs=[M'] :=
 (He (a:=a) k z hb).dg M bS ⟨rfl,_,rfl,rfl⟩
theorem E3 (k:Int)(hb:¬(1<=k/\k<=112)):Ct 49 [ptr a,.int .i64 k] [M] fun u Bs=>u = .int .i64 1/\∃M',M'=M/\Bs=[M'] :=
 (Hf (a:=a) k hb).dg M bS ⟨rfl,_,rfl,rfl⟩
theorem sS (k x y:Int)(hb:¬(1<=k/\k<=112)\/x<0\/y<0):Ct 56 [ptr a,.int .i64 k,.int .i64 x,.int .i64 y] [M] fun u Bs=>u = .tuple #[.slice none 0 0,.int .i64 1]/\Bs=[M] :=
 (Ll (a:=a) k x y hb).dg M bS ⟨rfl,rfl⟩
include h
theorem E7 (x:Int)(gh:Option Addr)(m cb:Nat)(A:Chunk)(hb:x<0\/22528<x\/22528 - x<m):Ct 53 [ptr a,.int .i64 x,.slice gh m cb] [M,A] fun u Bs=>u = .int .i64 1/\∃M',M'=M/\Bs=[M',A]:=by
 obtain ⟨ad,c,D,O,adG,cG,DG,bI,cS,DS,h1,h2,h3,h4,h5,rfl⟩:=h
 exact (Hi (a:=a) (vL:=.slice ad l.length c) (txg:=txg) (note:=note) (room:=room) (adG:=adG) (cG:=cG) (vS:=.slice bI 22528 cS) x gh m cb hb).dg (D++(O++(DG++(DS++A)))) bS ⟨rfl,_,rfl,rfl⟩
theorem Fa (x y:Int)(hb:x<0\/y<0\/22528<x\/22528 - x<y):Ct 62 [ptr a,.int .i64 x,.int .i64 y] [M] fun u Bs=>u = .tuple #[.slice none 0 0,.int .i64 1]/\Bs=[M]:=by
 obtain ⟨ad,c,D,O,adG,cG,DG,bI,cS,DS,h1,h2,h3,h4,h5,rfl⟩:=h
 exact (Hj (a:=a) (vL:=.slice ad l.length c) (txg:=txg) (note:=note) (room:=room) (adG:=adG) (cG:=cG) (vS:=.slice bI 22528 cS) x y hb).dg (D++(O++(DG++DS))) bS ⟨rfl,rfl⟩
theorem Vw (x:Nat)(b:List UInt8)(m:Nat)(hm:b.length=m)(hx:x+m<=22528)(hG:G.length=22528)(A:Chunk)(gh:Option Addr)(cb:Nat)(hA:Rd A 1 (.slice gh m cb) m (ak b)):Ct 53 [ptr a,.int .i64 x,.slice gh m cb] [M,A] fun u Bs=>u = .int .i64 0/\∃M',Bz a l txg note room (sL G x b) Z M'/\Bs=[M',A]:=by
 obtain ⟨ad,c,D,O,adG,cG,DG,bI,cS,DS,h1,h2,h3,h4,h5,rfl⟩:=h
 refine (Qq a (.slice ad l.length c) txg note room G hG adG cG DG h4 (.slice bI 22528 cS) x b m hm hx A gh cb hA).on (Rs:=D++(O++DS)) bS ?_
 rintro u Bs ⟨rfl,wD,k1,rfl⟩
 exact ⟨_,[],⟨rfl,_,⟨ad,c,D,O,adG,cG,wD,bI,cS,DS,h1,h2,h3,k1,h5,rfl⟩,rfl⟩,bS⟩
theorem Vx (x m:Nat)(hx:x+m<=22528):Ct 62 [ptr a,.int .i64 x,.int .i64 m] [M] fun u Bs=>∃ad c,u = .tuple #[.slice ad m c,.int .i64 0]/\Rd M 1 (.slice ad m c) m (ak ((G.drop x).take m))/\Bs=[M]:=by
 obtain ⟨ad,c,D,O,adG,cG,DG,bI,cS,DS,h1,h2,h3,h4,h5,rfl⟩:=h
 refine (Qp a (.slice ad l.length c) txg note room G adG cG DG h4 (.slice bI 22528 cS) x m hx).on (Rs:=D++(O++DS)) bS ?_
 rintro u Bs ⟨ba,c',k1,k2,rfl⟩
 exact ⟨_,[],⟨ba,c',k1,k2.sub fun x hx=>by simp only [List.mem_append,hx,true_or,or_true],rfl⟩,bS⟩
theorem LX (aQ:mO l)(dT:Nat)(AO:txg+1<18446744073709551616):Ct 50 [ptr a,.int .u64 dT] [M] fun _ Bs=>∃M',Bz a (l.map (lO (txg+1))) (txg+1) dT room G G M'/\Bs=[M']:=by
 obtain ⟨ad,c,D,O,adG,cG,DG,bI,cS,DS,h1,h2,h3,h4,h5,rfl⟩:=h
 refine (Hx a l aQ txg note room dT AO G adG cG DG h4.rd (.slice bI 22528 cS) ad c D O h1 h3).on (Rs:=DS) bS ?_
 rintro u Bs ⟨D',fV,cT,DT,k1,k2,rfl⟩
 have e:(l.map (lO (txg+1))).length=l.length:=List.length_map ..
 refine ⟨_,DS,⟨_,⟨ad,c,D',O,adG,cG,DG,fV,cT,DT,by rw [e];exact k1,by rw [e];exact h2,fun o ho => ?_,h4,k2,rfl⟩,by rw [e]⟩,bS⟩
 obtain ⟨o',dI,rfl⟩:=List.mem_map.1 ho
 have e2:(lO (txg+1) o').b=o'.b/\(lO (txg+1) o').v=o'.v:=⟨(dq _ o' 64).2.1,(dq _ o' 64).2.2⟩
 rw [e2.1,e2.2]
 exact h3 o' dI
theorem Vy (aQ:mO l):Ct 15 [ptr a] [M] fun u Bs=>∃d l' D',u=ptr d/\l'.map au.nv=l.map au.nv/\Bz d l' txg note room G Z D'/\Bs=[D',M]:=by
 obtain ⟨ad,c,D,O,adG,cG,DG,bI,cS,DS,h1,h2,h3,h4,h5,rfl⟩:=h
 refine (wE a l aQ txg note room G Z adG cG DG h4.rd bI cS DS h5.rd ad c D O h1.1 h3).on (Rs:=[]) bS ?_
 rintro u Bs ⟨d,l',ba,c',D',E,kX,yO,wD,kg,xL,AM,rfl,k1,k2,k3,k4,k5,rfl⟩
 exact ⟨_,[],⟨d,l',_,rfl,k1,⟨ba,c',D',E,kX,yO,wD,kg,xL,AM,Jd.of k2,by have:=k2.dN;omega,k3,k4,k5,rfl⟩,rfl⟩,bS⟩
include aQ
theorem HI (k:Int)(hk:1<=k/\k<=112)(x y:Nat)(hn:ey l k=none):Ct 56 [ptr a,.int .i64 k,.int .i64 x,.int .i64 y] [M] fun u Bs=>u = .tuple #[.slice none 0 0,.int .i64 130]/\Bs=[M]:=by
 obtain ⟨ad,c,D,O,adG,cG,DG,bI,cS,DS,h1,h2,h3,h4,h5,rfl⟩:=h
 exact (P6 a l aQ txg note room (.slice adG 22528 cG) (.slice bI 22528 cS) ad c D h1.1 k hk x y hn).dg (O++(DG++DS)) bS ⟨rfl,rfl⟩
theorem Vz (k:Int):Ct 57 [ptr a,.int .i64 k] [M] fun u Bs=>u = .tuple #[.int .i64 (iE l k).1,.int .i64 (iE l k).2]/\Bs=[M]:=by
 obtain ⟨ad,c,D,O,adG,cG,DG,bI,cS,DS,h1,h2,h3,h4,h5,rfl⟩:=h
 exact (AF a l aQ txg note room (.slice adG 22528 cG) (.slice bI 22528 cS) ad c D O h1.1 h3 k).dg (O++(DG++DS)) bS ⟨rfl,rfl⟩
theorem VB (k:Int)(hk:1<=k/\k<=112)(x y:Nat)(hxy:x<9223372036854775808/\y<9223372036854775808){o:au}(ho:ey l k=some o):Ct 56 [ptr a,.int .i64 k,.int .i64 x,.int .i64 y] [M] fun u Bs=>∃ad c,u = .tuple #[.slice ad (dB o.b.length x y) c,.int .i64 0]/\Rd M 1 (.slice ad (dB o.b.length x y) c) (dB o.b.length x y) (ak ((o.b.drop x).take y))/\Bs=[M]:=by
 obtain ⟨ad,c,D,O,adG,cG,DG,bI,cS,DS,h1,h2,h3,h4,h5,rfl⟩:=h
 refine (P7 a l aQ txg note room (.slice adG 22528 cG) (.slice bI 22528 cS) ad c D O h1.1 h3 k hk x y hxy o ho).on (Rs:=DG++DS) bS ?_
 rintro u Bs ⟨ba,c',k1,k2,rfl⟩
 exact ⟨_,[],⟨ba,c',k1,k2.sub fun x hx=>by simp only [List.mem_append,hx,true_or,or_true],rfl⟩,bS⟩
theorem Fb (k:Int)(g:Nat)(hn:(iE l k).2≠0):Ct 59 [ptr a,.int .i64 k,.int .u64 g] [M] fun u Bs=>u = .tuple #[.slice none 0 0,.int .i64 (iE l k).2]/\Bs=[M]:=by
 obtain ⟨ad,c,D,O,adG,cG,DG,bI,cS,DS,h1,h2,h3,h4,h5,rfl⟩:=h
 exact (Lm a l aQ txg note room (.slice adG 22528 cG) (.slice bI 22528 cS) ad c D O h1.1 h3 k g hn).dg (O++(DG++DS)) bS ⟨rfl,rfl⟩
theorem Rr (k:Int)(hk:1<=k/\k<=112)(g:Nat){o:au}(ho:ey l k=some o):Ct 59 [ptr a,.int .i64 k,.int .u64 g] [M] fun u Bs=>∃ad c E,u = .tuple #[.slice ad (mb o.b.length 0 (aV o g) []).length c,.int .i64 0]/\az E 143 2 (.slice ad (mb o.b.length 0 (aV o g) []).length c) (mb o.b.length 0 (aV o g) []).length ((mb o.b.length 0 (aV o g) []).flatMap Sp.lay)/\Bs=[E,M]:=by
 obtain ⟨ad,c,D,O,adG,cG,DG,bI,cS,DS,h1,h2,h3,h4,h5,rfl⟩:=h
 refine (P8 a l aQ txg note room (.slice adG 22528 cG) (.slice bI 22528 cS) ad c D O h1.1 h3 k hk g o ho).on (Rs:=O++(DG++DS)) bS ?_
 rintro u Bs ⟨ba,c',E,k1,k2,rfl⟩
 exact ⟨_,[],⟨ba,c',E,k1,k2,rfl⟩,bS⟩
theorem VC (k:Int)(hk:1<=k/\k<=112):(ey l k=none/\Ct 49 [ptr a,.int .i64 k] [M] fun u Bs=>u = .int .i64 130/\∃M',M'=M/\Bs=[M'])\/(∃o,ey l k=some o)/\Ct 49 [ptr a,.int .i64 k] [M] fun u Bs=>u = .int .i64 0/\∃M',(∃i o,l[i]? = some o/\(o.no:Int)=k/\Bz a (l.take i++l.drop (i+1)) txg note room G Z M')/\Bs=[M']:=by
 obtain ⟨ad,c,D,O,adG,cG,DG,bI,cS,DS,h1,h2,h3,h4,h5,rfl⟩:=h
 have c:=Qg a l aQ txg note room (.slice adG 22528 cG) (.slice bI 22528 cS) ad c D k hk h1 h2
 cases hl:ey l k with
 | none =>
  refine .inl ⟨rfl,c.on (Rs:=O++(DG++DS)) bS ?_⟩
  rintro u Bs (⟨-,rfl,rfl⟩ | ⟨i,o, -, -, -, -, -,e, -⟩)
  ·exact ⟨_,[],⟨rfl,_,rfl,rfl⟩,bS⟩
  ·rw [hl] at e;cases e
 | some o =>
  refine .inr ⟨⟨o,rfl⟩,c.on (Rs:=O++(DG++DS)) bS ?_⟩
  rintro u Bs (⟨e, -⟩ | ⟨i,o',l',ba,c',D',k1,k2,rfl,rfl,k3,k4,rfl⟩)
  ·rw [hl] at e;cases e
  ·exact ⟨_,[],⟨rfl,_,⟨i,o',k1,(fh k2).2,ba,c',D',O,adG,cG,DG,bI,cS,DS,k3,k4,fun x hx=>h3 x (by
    rcases List.mem_append.1 hx with hx | hx
    ·exact List.mem_of_mem_take hx
    ·exact List.mem_of_mem_drop hx),h4,h5,rfl⟩,rfl⟩,bS⟩
include hr
theorem xS (k:Nat)(hk:1<=k/\k<=112)(x m:Nat)(TI:x+m<=65536)(B:Chunk)(gh:Option Addr)(cb:Nat)(b:List UInt8)(dr:b.length=m)(hB:Rd B 1 (.slice gh m cb) m (ak b))(Hd:m<=cb)(hf:cA l k (max (kU l k).b.length (x+m)) room=false) :
  Ct 43 [ptr a,.int .i64 k,.int .i64 x,.slice gh m cb] [M,B] fun u Bs=>u = .int .i64 3/\∃M',M'=M/\Bs=[M',B]:=by
 obtain ⟨ad,c,D,O,adG,cG,DG,bI,cS,DS,h1,h2,h3,h4,h5,rfl⟩:=h
 refine (yN a l aQ txg note room hr (.slice adG 22528 cG) (.slice bI 22528 cS) ad c D O h1.1 h3 k hk x m TI B gh cb b dr hB Hd).on (Rs:=DG++DS) bS ?_
 rintro u Bs (⟨-,rfl,rfl⟩ | ⟨hc, -⟩)
 ·exact ⟨_,[],⟨rfl,_,rfl,rfl⟩,bS⟩
 ·rw [hf] at hc;cases hc
theorem Rt (k:Nat)(hk:1<=k/\k<=112)(x m:Nat)(TI:x+m<=65536)(B:Chunk)(gh:Option Addr)(cb:Nat)(b:List UInt8)(dr:b.length=m)(hB:Rd B 1 (.slice gh m cb) m (ak b))(Hd:m<=cb)(hf:cA l k (max (kU l k).b.length (x+m)) room=true) :
  Ct 43 [ptr a,.int .i64 k,.int .i64 x,.slice gh m cb] [M,B] fun u Bs=>u = .int .i64 0/\∃M',(∃v,Bz a (dF { kU l k with b:=Lp (kU l k).b (max (kU l k).b.length (x+m)) x b,gE:=qm (kU l k) x m,v:=v } false l) txg note room G Z M')/\Bs=[M',B]:=by
 obtain ⟨ad,c,D,O,adG,cG,DG,bI,cS,DS,h1,h2,h3,h4,h5,rfl⟩:=h
 refine (yN a l aQ txg note room hr (.slice adG 22528 cG) (.slice bI 22528 cS) ad c D O h1.1 h3 k hk x m TI B gh cb b dr hB Hd).on (Rs:=DG++DS) bS ?_
 rintro u Bs (⟨hc, -⟩ | ⟨-,rfl,v,l',ba,c',D',E,rfl,k1,k2,rfl⟩)
 ·rw [hf] at hc;cases hc
 ·exact ⟨_,[],⟨rfl,_,⟨v,ba,c',D',O++E,adG,cG,DG,bI,cS,DS,Jd.of k2,by have:=k2.dN;omega,k1,h4,h5,rfl⟩,rfl⟩,bS⟩
theorem Fc (k:Int)(hk:1<=k/\k<=112)(z:Nat)(hz:z<=65536)(hn:ey l k=none):Ct 45 [ptr a,.int .i64 k,.int .i64 z] [M] fun u Bs=>u = .int .i64 130/\∃M',M'=M/\Bs=[M']:=by
 obtain ⟨ad,c,D,O,adG,cG,DG,bI,cS,DS,h1,h2,h3,h4,h5,rfl⟩:=h
 refine (rT a l aQ txg note room hr (.slice adG 22528 cG) (.slice bI 22528 cS) ad c D O h1.1 h3 k hk z hz).on (Rs:=DG++DS) bS ?_
 rintro u Bs (⟨-,rfl,rfl⟩ | ⟨o,e, -⟩)
 ·exact ⟨_,[],⟨rfl,_,rfl,rfl⟩,bS⟩
 ·rw [hn] at e;cases e
theorem xT (k:Int)(hk:1<=k/\k<=112)(z:Nat)(hz:z<=65536){o:au}(hl:ey l k=some o)(hf:cA l k z room=false):Ct 45 [ptr a,.int .i64 k,.int .i64 z] [M] fun u Bs=>u = .int .i64 3/\∃M',M'=M/\Bs=[M']:=by
 obtain ⟨ad,c,D,O,adG,cG,DG,bI,cS,DS,h1,h2,h3,h4,h5,rfl⟩:=h
 refine (rT a l aQ txg note room hr (.slice adG 22528 cG) (.slice bI 22528 cS) ad c D O h1.1 h3 k hk z hz).on (Rs:=DG++DS) bS ?_
 rintro u Bs (⟨e, -⟩ | ⟨o', -,⟨-,rfl,rfl⟩ | ⟨hc, -⟩⟩)
 ·rw [hl] at e;cases e
 ·exact ⟨_,[],⟨rfl,_,rfl,rfl⟩,bS⟩
 ·rw [hf] at hc;cases hc
theorem Ru (k:Int)(hk:1<=k/\k<=112)(z:Nat)(hz:z<=65536){o:au}(hl:ey l k=some o)(hf:cA l k z room=true):Ct 45 [ptr a,.int .i64 k,.int .i64 z] [M] fun u Bs=>u = .int .i64 0/\∃M',(∃v,Bz a (dF { W7 o z with b:=dH z o.b,v:=v } false l) txg note room G Z M')/\Bs=[M']:=by
 obtain ⟨ad,c,D,O,adG,cG,DG,bI,cS,DS,h1,h2,h3,h4,h5,rfl⟩:=h
 refine (rT a l aQ txg note room hr (.slice adG 22528 cG) (.slice bI 22528 cS) ad c D O h1.1 h3 k hk z hz).on (Rs:=DG++DS) bS ?_
 rintro u Bs (⟨e, -⟩ | ⟨o',e,⟨hc, -⟩ | ⟨-,rfl,v,l',ba,c',D',E,rfl,k1,k2,rfl⟩⟩)
 ·rw [hl] at e;cases e
 ·rw [hf] at hc;cases hc
 ·rw [hl] at e;cases e
  exact ⟨_,[],⟨rfl,_,⟨v,ba,c',D',O++E,adG,cG,DG,bI,cS,DS,Jd.of k2,by have:=k2.dN;omega,k1,h4,h5,rfl⟩,rfl⟩,bS⟩
theorem HJ (k:Int)(hk:1<=k/\k<=112)(z:Nat)(hz:1<=z/\z<=112)(hn:ey l k=none):Ct 47 [ptr a,.int .i64 k,.int .i64 z] [M] fun u Bs=>u = .int .i64 130/\∃M',M'=M/\Bs=[M']:=by
 obtain ⟨ad,c,D,O,adG,cG,DG,bI,cS,DS,h1,h2,h3,h4,h5,rfl⟩:=h
 refine (qp a l aQ txg note room hr (.slice adG 22528 cG) (.slice bI 22528 cS) ad c D O h1.1 h3 k hk z hz).on (Rs:=DG++DS) bS ?_
 rintro u Bs (⟨-,rfl,rfl⟩ | ⟨o,e, -⟩)
 ·exact ⟨_,[],⟨rfl,_,rfl,rfl⟩,bS⟩
 ·rw [hn] at e;cases e
theorem Bc (z:Nat)(hz:1<=z/\z<=112){o:au}(hl:ey l z=some o):Ct 47 [ptr a,.int .i64 z,.int .i64 z] [M] fun u Bs=>u = .int .i64 0/\∃M',M'=M/\Bs=[M']:=by
 obtain ⟨ad,c,D,O,adG,cG,DG,bI,cS,DS,h1,h2,h3,h4,h5,rfl⟩:=h
 refine (qp a l aQ txg note room hr (.slice adG 22528 cG) (.slice bI 22528 cS) ad c D O h1.1 h3 z oZ z hz).on (Rs:=DG++DS) bS ?_
 rintro u Bs (⟨e, -⟩ | ⟨o', -,⟨-,rfl,rfl⟩ | ⟨hc, -⟩ | ⟨hc, -⟩⟩)
 ·rw [hl] at e;cases e
 ·exact ⟨_,[],⟨rfl,_,rfl,rfl⟩,bS⟩
 ·exact absurd rfl hc
 ·exact absurd rfl hc
theorem Be (k:Int)(hk:1<=k/\k<=112)(z:Nat)(hz:1<=z/\z<=112)(jE:k≠z){o:au}(hl:ey l k=some o)(hf:cA l z o.b.length room=false):Ct 47 [ptr a,.int .i64 k,.int .i64 z] [M] fun u Bs=>u = .int .i64 3/\∃M',M'=M/\Bs=[M']:=by
 obtain ⟨ad,c,D,O,adG,cG,DG,bI,cS,DS,h1,h2,h3,h4,h5,rfl⟩:=h
 refine (qp a l aQ txg note room hr (.slice adG 22528 cG) (.slice bI 22528 cS) ad c D O h1.1 h3 k hk z hz).on (Rs:=DG++DS) bS ?_
 rintro u Bs (⟨e, -⟩ | ⟨o',e,⟨hc, -⟩ | ⟨-, -,rfl,rfl⟩ | ⟨-,hc, -⟩⟩)
 ·rw [hl] at e;cases e
 ·exact absurd hc jE
 ·exact ⟨_,[],⟨rfl,_,rfl,rfl⟩,bS⟩
 ·rw [hl] at e;cases e
  rw [hf] at hc;cases hc
theorem VE (k:Int)(hk:1<=k/\k<=112)(z:Nat)(hz:1<=z/\z<=112)(jE:k≠z){o:au}(hl:ey l k=some o)(hf:cA l z o.b.length room=true):Ct 47 [ptr a,.int .i64 k,.int .i64 z] [M] fun u Bs=>u = .int .i64 0/\∃M',(∃v,Bz a (dF { o with no:=z,v:=v } false l) txg note room G Z M')/\Bs=[M']:=by
 obtain ⟨ad,c,D,O,adG,cG,DG,bI,cS,DS,h1,h2,h3,h4,h5,rfl⟩:=h
 refine (qp a l aQ txg note room hr (.slice adG 22528 cG) (.slice bI 22528 cS) ad c D O h1.1 h3 k hk z hz).on (Rs:=DG++DS) bS ?_
 rintro u Bs (⟨e, -⟩ | ⟨o',e,⟨hc, -⟩ | ⟨-,hc, -⟩ | ⟨-, -,rfl,v,l',ba,c',D',E,rfl,k1,k2,rfl⟩⟩)
 ·rw [hl] at e;cases e
 ·exact absurd hc jE
 ·rw [hl] at e;cases e
  rw [hf] at hc;cases hc
 ·rw [hl] at e;cases e
  exact ⟨_,[],⟨rfl,_,⟨v,ba,c',D',O++E,adG,cG,DG,bI,cS,DS,Jd.of k2,by have:=k2.dN;omega,k1,h4,h5,rfl⟩,rfl⟩,bS⟩
end
set_option maxHeartbeats 4000000
section
variable (rg p s a d:Nat)(vQ:Value)(S M A Dn:Chunk)(k z x y e:Int)(nt:Nat)(b:Value)(PS PM:Chunk->Prop)
theorem Jq (hs:Ct 52 [ptr s,.int .i64 x,b] [S,A] fun u Bs=>u = .int .i64 e/\∃S',PS S'/\Bs=[S',A])(hd:Ct 53 [ptr a,.int .i64 x,b] [M,A] fun u Bs=>u = .int .i64 e/\∃M',PM M'/\Bs=[M',A]) :
  Ct 17 [ptr rg,nR 9 k z x y nt b] [[(rg,l7 p vQ s a d)],S,M,A] fun u Bs=>u = .bool true/\∃S' M',PS S'/\PM M'/\Bs=[[(rg,l7 p vQ s a d)],S',M',A]:=by
 refine st Tryz.func17 fun w0 => ?_
 refine ga ?_;intro b3
 refine qM [[(rg,l7 p vQ s a d)],[(b3,opO 9 k z x y nt b)]] [0,4,8,12,16,20,24,28,36,40,44,48,52,56,60,64,33,71,74,78] ?_
 refine gc hs ?_
 rintro _ _ ⟨rfl,S',h1,rfl⟩
 refine gc hd ?_
 rintro _ _ ⟨rfl,M',h2,rfl⟩
 refine gz ?_
 exact fin ⟨by simp,S',M',h1,h2,rfl⟩ aa
theorem Rv (PD:Chunk->Prop)(hf:Ct 54 [ptr rg] [[(rg,l7 p vQ s a d)],M,Dn] fun _ Bs=>∃M' D',PM M'/\PD D'/\Bs=[[(rg,l7 p vQ s a d)],M',D'])
  (hs:Ct 55 [ptr s] [S] fun u Bs=>u = .int .i64 0/\∃S',PS S'/\Bs=[S']) :
  Ct 17 [ptr rg,nR 10 k z x y nt b] [[(rg,l7 p vQ s a d)],S,M,Dn] fun u Bs=>u = .bool true/\∃S' M' D',PS S'/\PM M'/\PD D'/\Bs=[[(rg,l7 p vQ s a d)],S',M',D']:=by
 refine st Tryz.func17 fun w0 => ?_
 refine ga ?_;intro b3
 refine gc hf ?_
 rintro _ _ ⟨M',D',h1,h2,rfl⟩
 refine gc hs ?_
 rintro _ _ ⟨rfl,S',h3,rfl⟩
 refine gz ?_
 exact fin ⟨by simp,S',M',D',h3,h1,h2,rfl⟩ aa
theorem LY (PD:Chunk->Nat->Chunk->Prop)(hm:Ct 50 [ptr a,.int .u64 nt] [M] fun _ Bs=>∃M',PM M'/\Bs=[M'])
  (hc:∀M',PM M'->Ct 15 [ptr a] [M'] fun u Bs=>∃d' D',u=ptr d'/\PD M' d' D'/\Bs=[D',M'])
  (hs:Ct 51 [ptr s,.int .u64 nt] [S] fun u Bs=>u = .int .i64 0/\∃S',PS S'/\Bs=[S']) :
  Ct 17 [ptr rg,nR 7 k z x y nt b] [[(rg,l7 p vQ s a d)],S,M] fun u Bs=>u = .bool true/\∃S' M' d' D',PS S'/\PM M'/\PD M' d' D'/\Bs=[[(rg,l7 p vQ s a d')],S',M',D']:=by
 refine st Tryz.func17 fun w0 => ?_
 refine ga ?_;intro b3
 refine gc hm ?_
 rintro _ _ ⟨M',h1,rfl⟩
 refine gc (hc M' h1) ?_
 rintro _ _ ⟨d',D',rfl,h2,rfl⟩
 refine qM [[(rg,l7 p vQ s a d')],[(b3,opO 7 k z x y nt b)]] [0,4,8,12,16,20,27,30,34] ?_
 refine gc hs ?_
 rintro _ _ ⟨rfl,S',h3,rfl⟩
 refine gz ?_
 exact fin ⟨by simp,S',M',d',D',h3,h1,h2,rfl⟩ aa
theorem VG (o:Int)(h0:o≠0)(h1:o≠1)(h2:o≠2)(h3:o≠3)(h7:o≠7)(h9:o≠9)(Xl:o≠10) :
  Ct 17 [ptr rg,nR o k z x y nt b] [] fun u Bs=>u = .bool true/\Bs=[]:=by
 refine st Tryz.func17 fun w0 => ?_
 refine ga ?_;intro b3
 refine gz ?_
 exact fin ⟨rfl,rfl⟩ aa
end
section
variable (rg p s a d:Nat)(vQ:Value)(S M A:Chunk)(k z x y e:Int)(nt:Nat)(PS PM:Chunk->Prop)
theorem w6 (bs:List UInt8)(m:Nat)(dr:bs.length=m)(gh:Option Addr)(cb:Nat)(hA:Rd A 1 (.slice gh m cb) m (ak bs))(hm:m<=1048576)
  (hs:∀B' adc cc,az B' 5 1 (.slice adc m cc) m (ak bs)->Ct 42 [ptr s,.int .i64 k,.int .i64 x,.slice adc m cc] [S,B'] fun u Bs=>u = .int .i64 e/\∃S',PS S'/\Bs=[S',B'])
  (hd:Ct 43 [ptr a,.int .i64 k,.int .i64 x,.slice gh m cb] [M,A] fun u Bs=>u = .int .i64 e/\∃M',PM M'/\Bs=[M',A]) :
  Ct 17 [ptr rg,nR 0 k z x y nt (.slice gh m cb)] [[(rg,l7 p vQ s a d)],S,M,A] fun u Bs=>u = .bool true/\∃S' M',PS S'/\PM M'/\Bs=[[(rg,l7 p vQ s a d)],S',M',A]:=by
 refine st Tryz.func17 fun w0 => ?_
 refine ga ?_;intro b3
 refine gp ?_;intro adc cc B' Bl
 have hBr:=Bl.rd
 refine gd [0,4,8,12,16,20,24,28,32,39,42] ?_
 refine gc (hs B' adc cc Bl) ?_
 rintro _ _ ⟨rfl,S',h1,rfl⟩
 refine go ?_
 rw [show decide (bs=bs)=true from decide_eq_true rfl]
 obtain ⟨g1,g2,⟨hv,h3,rfl⟩ | ⟨g,c1,r,hv,rfl,h3,h4,h5⟩⟩:=Bl
 ·cases hv
  refine gl [0,3,5,6,7] (fun i:Nat=>[(8,.int .i64 i)]) (fun _=>[]) (fun i=>i=0) (fun _=>0) 0 rfl ?_
  rintro i rfl
  refine gd [0,4,10,12,16,20,24,28,32,36,40,44,48,55,58,62,66] ?_
  refine gc hd ?_
  rintro _ _ ⟨rfl,M',h2,rfl⟩
  refine gz ?_
  exact fin ⟨by simp,S',M',h1,h2,rfl⟩ aa
 ·cases hv
  refine gl [0,3,5,6,7] (fun ((i,_):Nat×List Value)=>[(8,.int .i64 i)]) (fun (i,pre)=>[[(g,ax (pre++((ak bs).drop i++r)) 5)]]) (fun (i,pre)=>i<=m/\pre.length=i) (fun (i,_)=>m - i) (0,[]) ⟨by omega,rfl⟩ ?_
  rintro ⟨i,pre⟩ ⟨hi,sU⟩
  refine gi ?_ ?_ <;> intro bo
  ·have bm:i<bs.length:=by omega
   have O5:(ak bs).drop i = .int .u8 (bs[i].toNat:Int) :: (ak bs).drop (i+1):=by
    rw [List.drop_eq_getElem_cons (by rw [ai];omega)]
    congr 1
    simp [ak]
   rw [O5]
   have bV:(pre++(.int .u8 (bs[i].toNat:Int) :: (ak bs).drop (i+1)++r))[i]? = some (.int .u8 (bs[i].toNat:Int)):=by
    rw [List.getElem?_append_right oZ,sU,Nat.sub_self];rfl
   have fm:∀v,(pre++(.int .u8 (bs[i].toNat:Int) :: (ak bs).drop (i+1)++r)).set i v=(pre++[v])++((ak bs).drop (i+1)++r):=fun v=>by
    rw [List.set_append_right _ _ oZ,sU,Nat.sub_self,List.append_assoc];rfl
   refine go ?_
   rw [fm]
   refine gn ?_
   exact ⟨(i+1,pre++[_]),⟨by omega,by simp [sU]⟩,by simp only;omega,aq,_,aa⟩
  ·obtain rfl:i=m:=by omega
   refine gd [0,4,10,12,16,20,24,28,32,36,40,44,48,55,58,62,66] ?_
   refine gc hd ?_
   rintro _ _ ⟨rfl,M',h2,rfl⟩
   refine gz ?_
   exact fin ⟨by simp,S',M',h1,h2,rfl⟩ aa
end
end Go.Proofs.YteldablklnfblaaGreatDoor
